/- A part of a proof. -/
import Derived.Test.YtlapcfnmmpbeeaaGreatPO20
import Derived.Test.YtlapcfnmmpbeeaaGreatPO21
set_option linter.unusedSimpArgs false
set_option linter.unusedVariables false
namespace Go.Proofs.YtlapcfnmmpbeeaaGreat
open Go.RowKit
def jBz (o : OpD) : Bool := tagB o.id && (decide (o.schema = ⟨0, 0⟩) || tagB o.schema) && decide (1 ≤ o.time) && decide (o.time ≤ 1099511627776) && jBB o.cart && jEi o &&
  (if o.kind = 5 then o.item.isEmpty && jFj o else if o.kind = 1 then jBB o.item && jFj o && o.drops.isEmpty else if o.kind = 2 then jBB o.item && jFj o
   else jCl o.at_ && (!decide (o.at_.scope = 1) || jBB o.item) && (!decide (o.at_.scope = 0) || o.item.isEmpty) &&
     (if o.kind = 3 then !o.has && o.text.isEmpty && o.drops.isEmpty && decide (-1048577 < o.delta) && decide (o.delta < 1048577) else decide (o.kind = 4) && decide (o.delta = 0) && (if o.has then decide (o.text.length < 41) else o.text.isEmpty)))
theorem jIR : jBB [] = false := by simp [jBB]
theorem jG0 {α : Type} (l : List α) : l.isEmpty = true ↔ l = [] := by cases l <;> simp
theorem jIm {r : RefD} (h : jCl r = true) : r.scope = 0 ∨ r.scope = 1 := by
  unfold jCl at h
  simp only [Bool.and_eq_true, Bool.or_eq_true, beq_iff_eq] at h
  exact h.1.1
theorem jHa (o : OpD) : jBz o = jBs o := by
  rw [Bool.eq_iff_iff]
  unfold jBz jBs sO jBU itO plO jFj
  by_cases h5 : o.kind = 5
  · simp only [h5, if_true, Int.reduceEq, if_false, Bool.and_eq_true, Bool.or_eq_true, decide_eq_true_eq, jG0, jFH, Bool.not_eq_true', decide_false, Bool.or_self, Bool.not_false, Bool.true_or, Bool.false_and, true_and, and_true]
    grind
  by_cases h1 : o.kind = 1
  · simp only [h1, if_true, Int.reduceEq, if_false, Bool.and_eq_true, Bool.or_eq_true, decide_eq_true_eq, jG0, jFH, Bool.not_eq_true', decide_false, decide_true, Bool.or_self, Bool.not_false, Bool.not_true, Bool.true_or, Bool.false_or, Bool.false_and, true_and, and_true]
    grind
  by_cases h2 : o.kind = 2
  · simp only [h2, if_true, Int.reduceEq, if_false, Bool.and_eq_true, Bool.or_eq_true, decide_eq_true_eq, jG0, jFH, Bool.not_eq_true', decide_false, decide_true, Bool.or_self, Bool.not_false, Bool.not_true, Bool.true_or, Bool.false_or, Bool.false_and, true_and, and_true]
    grind
  by_cases h3 : o.kind = 3
  · simp only [h3, if_true, Int.reduceEq, if_false, Bool.and_eq_true, Bool.or_eq_true, decide_eq_true_eq, jG0, jFH, Bool.not_eq_true', decide_false, decide_true, Bool.or_self, Bool.not_false, Bool.not_true, Bool.true_or, Bool.or_true, Bool.false_or, Bool.false_and, Bool.true_and, true_and, and_true, decide_eq_false_iff_not]
    have hs := @jIm o.at_
    grind [jIR]
  by_cases h4 : o.kind = 4
  · simp only [h4, if_true, Int.reduceEq, if_false, Bool.and_eq_true, Bool.or_eq_true, decide_eq_true_eq, jG0, jFH, Bool.not_eq_true', decide_false, decide_true, Bool.or_self, Bool.not_false, Bool.not_true, Bool.true_or, Bool.or_true, Bool.false_or, Bool.false_and, Bool.true_and, true_and, and_true, decide_eq_false_iff_not]
    have hs := @jIm o.at_
    grind [jIR]
  simp only [h5, h1, h2, h3, h4, if_false, Bool.false_and, Bool.and_false, decide_false, Bool.false_eq_true]
set_option maxRecDepth 100000
theorem rbyte_c (c : Nat) (hc : c < 256) : AC Tryz.prog 68 [.sc (.int .u8 (c : Int))] (fun r => r = .s (.sc (.int .u32 (jFw c : Nat)))) := by
  refine AC.of' 19 0 Tryz.func68 rfl ?_; change AW _ _ _ _ []; refine AW.g (AL.ra ?_); refine AL.nil (AW.g (AL.rm ?_)); refine AL.r (jAu rfl jCN jIO rfl (jBI _ (by omega))) ?_; refine AL.ra ?_; refine AL.nil (AW.seq (AW.g (AL.ra ?_))); refine AL.nil (AW.block (AW.loopM (ι := Nat) [7, 8, 9, 10, 11, 12, 13, 14, 15, 16, 17, 18] (fun k => [(4, .sc (.int .i64 (k : Int))), (3, .sc (.int .u32 ((jBA k c : Nat) : Int)))]) [] (fun k => []) (fun k => k ≤ 8) (fun k => 8 - k) 0 (Nat.zero_le _) wk sk ?_)); rintro k gs hJ; refine AW.nm ?_
  have hS := jIB k (n := c) (by omega)
  refine AW.seq (AW.g (AL.rm ?_)); refine AL.r qb ?_; refine AL.nil (AW.cd rfl (fun h8 => ?_) (fun h8 => ?_))
  ·refine AW.skip (AW.seq (AW.block (AW.g (AL.rm ?_)))); refine AL.r (jHg (c := 2) rfl rfl rfl rfl rfl (by omega)) ?_; refine AL.r qb ?_; refine AL.nil (AW.cd rfl (fun h13 => ?_) (fun h13 => ?_))
   ·refine AW.region (AL.rm ?_); refine AL.r (jGQ (c := 2) rfl rfl rfl rfl rfl (by omega) (jBI _ (by omega))) ?_; refine AL.r (jJa rfl rfl rfl (u32_xor_nat _ 3988292384 (by omega) (by omega))) ?_; refine AL.ra ?_; refine AL.nil (AW.region ?_)
    first | rw [show jBA k c / 2 ^^^ 3988292384 = jBA (k + 1) c from by rw [halves_succ', half, if_pos (by omega)]] | rw [show jBA k c / 2 = jBA (k + 1) c from by rw [halves_succ', half, if_neg (by omega)]]
    refine AL.rm ?_; refine AL.r qA ?_; refine AL.ra ?_; refine AL.nil ?_; refine ⟨k + 1, ?_, by first | omega | (simp only []; omega), ?_, ?_⟩
    ·show k + 1 ≤ 8; omega
    ·exact wk
    exact sk
   refine AW.region (AL.rm ?_); refine AL.r (jGQ (c := 2) rfl rfl rfl rfl rfl (by omega) (jBI _ (by omega))) ?_; refine AL.ra ?_; refine AL.nil (AW.region ?_)
   first | rw [show jBA k c / 2 ^^^ 3988292384 = jBA (k + 1) c from by rw [halves_succ', half, if_pos (by omega)]] | rw [show jBA k c / 2 = jBA (k + 1) c from by rw [halves_succ', half, if_neg (by omega)]]
   refine AL.rm ?_; refine AL.r qA ?_; refine AL.ra ?_; refine AL.nil ?_; refine ⟨k + 1, ?_, by first | omega | (simp only []; omega), ?_, ?_⟩
   ·show k + 1 ≤ 8; omega
   ·exact wk
   exact sk
  refine AW.exit ?_; change AW _ _ _ _ _; refine AW.seq ?_; refine AW.region ?_; refine AL.rm ?_; refine AL.ra ?_; refine AL.nil ?_; change AW _ _ _ _ _; refine AW.ret ?_; change ResA _ _ _ _ _; refine r1t ?_; rw [show k = 8 by omega]; rfl
theorem res1tab {P : Program} {fn : Func} {R : RS → Prop} {t : List AV} {st : List TK} {a T k g bt : Nat} {f : Nat → Nat} (hr : fn.results = #[.cell a T]) (h : evA t (.tmp a) = .bx k g 0) (hk : st[k]? = some ⟨g, .box bt (tabA f)⟩) (hT : agN P T = some (some 256)) (h' : R (.s (.sc (tabV f)))) : ResA P fn R t st := fun F ρ w0 w a' h0 hs hm => by
  obtain ⟨v, g1, g2⟩ := (ResV.cells (P := P) (zs := tabA f) h hk hT (by rw [jCi]; omega) (by rw [List.drop_zero, List.take_of_length_le (by rw [jCi]; omega)])).run hs hm
  refine ⟨v, .s (.sc (tabV f)), ?_, by rw [g2.tab]; exact RepS.sc _, h'⟩; rw [jGi, hr]; simp [Sem.run_bind, g1]
def jIl (k : Nat) : Nat → Nat := fun i => if i < k then jFw i else 0
theorem jMv (k j : Nat) : jIl (k + 1) j = if j = k then jIl (k + 1) k else jIl k j := by
  unfold jIl
  by_cases e : j = k
  · subst e; simp
  rw [if_neg e]
  by_cases e2 : j < k
  · rw [if_pos e2, if_pos (by omega)]
  rw [if_neg e2, if_neg (by omega)]
theorem made_c : AC Tryz.prog 17 [] (fun r => r = .s (.sc (tabV jFw))) := by
  refine AC.of' 14 2 Tryz.func17 rfl ?_; change AW _ _ _ _ [TK.mk 0 .off, TK.mk 0 .off]; refine AW.g (AL.oq (AOpB.op (jGG 0 rfl rfl ?_))); refine AL.no ?_; refine AL.nil (AW.g (AL.r (jLv rfl) ?_)); refine AL.oq (AOpB.op (jGG 1 rfl rfl ?_)); refine AL.no ?_; refine AL.oq (jGP rfl rfl rfl (jCi _) rfl jLk ?_); refine AL.no ?_; refine AL.nil (AW.seq (AW.g (AL.ra ?_))); refine AL.nil (AW.block (AW.loopM (ι := Nat) [4, 5, 6, 7, 8, 9, 10, 11, 12] (fun k => [(2, .sc (.int .i64 (k : Int)))]) [] (fun k => [(1, ⟨1, .box 51 (tabA (jIl k))⟩)]) (fun k => k ≤ 256) (fun k => 256 - k) 0 (Nat.zero_le _) wk (by simp only [anys, upds, offs, List.set_cons_zero, List.set_cons_succ]; repeat (first | exact Sk.nil _ | refine Sk.same _ ?_ | refine Sk.scr _ (by decide) ?_ | refine Sk.eq _ (by rfl) ?_)) ?_))
  rintro k gs hJ; refine AW.nm ?_; refine AW.seq (AW.g (AL.rm ?_)); refine AL.r qb ?_; refine AL.nil (AW.cd rfl (fun h5 => ?_) (fun h5 => ?_))
  ·refine AW.skip ?_; change AW _ _ _ _ _; refine AW.seq ?_; refine AW.block ?_; refine AW.region ?_; (iterate 2 refine AL.rm ?_); refine AL.r (jAu rfl iss_3 ik_5 rfl ((jD7 k).trans (by rw [Nat.mod_eq_of_lt (by omega)]))) ?_; refine AL.cl (rbyte_c k (by omega)) ?_; refine AL.no ?_; refine AL.r (jEx (i := k) rfl ar_51 rfl rfl rfl rfl (by omega)) ?_; refine AL.oq (jFO rfl rfl rfl rfl rfl rfl sz_49 (by simp only [List.length_cons, List.length_nil, jCi]; omega) ?_); refine AL.no ?_; refine AL.nil ?_; change AW _ _ _ _ _; refine AW.region ?_; refine AL.rm ?_; refine AL.r qA ?_; refine AL.ra ?_; refine AL.nil ?_; refine ⟨k + 1, ?_, by first | omega | (simp only []; omega), ?_, ?_⟩
   ·show k + 1 ≤ 256; omega
   ·exact wk
   simp only [anys, upds, offs, List.set_cons_zero, List.set_cons_succ]; repeat (first | exact Sk.nil _ | refine Sk.same _ ?_ | refine Sk.scr _ (by decide) ?_ | refine Sk.eq _ (by rw [show jFw k = jIl (k + 1) k from (if_pos (by omega)).symm, tabA_set (u := jIl (k + 1)) (by omega) (fun j hj => jMv k j)]) ?_)
  refine AW.exit ?_; change AW _ _ _ _ _; refine AW.seq ?_; refine AW.region ?_; refine AL.r (jBq rfl jCU rfl rfl) ?_; refine AL.oq (jGP rfl rfl rfl (jCi _) rfl jLk ?_); refine AL.no ?_; refine AL.nil ?_; change AW _ _ _ _ _; refine AW.ret ?_; change ResA _ _ _ _ _; refine res1tab rfl rfl rfl jCU ?_; rw [show tabV (jIl k) = tabV jFw from by unfold tabV; congr 2; unfold tabL; apply List.map_congr_left; intro i hi; rw [jIl, if_pos (by have := List.mem_range.1 hi; omega)]]
set_option maxRecDepth 100000
theorem four_eq (u : Nat) : byA (leB 4 u) = [[.sc (.int .u8 ((u % 256 % 256 : Nat) : Int))], [.sc (.int .u8 ((u / 256 % 256 % 256 : Nat) : Int))], [.sc (.int .u8 ((u / 256 / 256 % 256 % 256 : Nat) : Int))], [.sc (.int .u8 ((u / 256 / 256 / 256 % 256 % 256 : Nat) : Int))]] := by
  simp only [leB, byA, List.map_cons, List.map_nil, bv, Nat.mod_mod]
  rw [jAF (by omega), jAF (by omega), jAF (by omega), jAF (by omega)]
theorem four_c (u : Nat) (hu : u < 4294967296) : AC Tryz.prog 102 [.sc (.int .u32 (u : Int))] (fun r => r = .o 5 1 (byA (leB 4 u))) := by
  refine AC.of' 18 3 Tryz.func102 rfl ?_; change AW _ _ _ _ [TK.mk 0 .off, TK.mk 0 .off, TK.mk 0 .off]; refine AW.g (AL.ra ?_); refine AL.nil (AW.g (AL.oq (AOpB.op (jFi 0 rfl jBC ze_5 rfl rfl rfl ?_)))); refine AL.no ?_; refine AL.ra ?_; refine AL.nil (AW.seq (AW.g (AL.ra ?_))); refine AL.nil (AW.block (AW.unroll 5 ?_)); change AW _ _ _ _ _; refine AW.seq (AW.g (AL.rm ?_)); refine AL.r qb ?_; refine AL.nil (AW.cond_t rfl (AW.skip (AW.seq (AW.block (AW.g ?_))))); (iterate 2 refine AL.rm ?_); refine AL.r (jHg (c := 256) rfl rfl rfl rfl rfl (by omega)) ?_
  refine AL.r (jAu rfl jEL ik_5 rfl (jD7 _)) ?_; refine AL.oq (AOpB.op (jCa rfl jBC ze_5 rfl rfl ?_)); refine AL.no ?_; refine AL.oq (jAz rfl jBC rfl rfl (jBQ rfl) (by first | omega | (simp; omega) | simp) (by first | omega | (simp; omega) | simp) ?_); refine AL.no ?_; refine AL.ra ?_; refine AL.nil (AW.region (AL.rm ?_)); refine AL.r (jGQ (c := 256) rfl rfl rfl rfl rfl (by omega) (jBI _ (by omega))) ?_; refine AL.ra ?_; refine AL.nil (AW.region (AL.rm ?_)); refine AL.r (jAj rfl rfl rfl (rfl : _ = (1 : Int))) ?_; refine AL.ra ?_; refine AL.nil (AW.seq (AW.g (AL.rm ?_))); refine AL.r qb ?_; refine AL.nil (AW.cond_t rfl (AW.skip (AW.seq (AW.block (AW.g ?_))))); (iterate 2 refine AL.rm ?_); refine AL.r (jHg (c := 256) rfl rfl rfl rfl rfl (by omega)) ?_; refine AL.r (jAu rfl jEL ik_5 rfl (jD7 _)) ?_; refine AL.oq (AOpB.op (jCa rfl jBC ze_5 rfl rfl ?_)); refine AL.no ?_; refine AL.oq (jAz rfl jBC rfl rfl (jBQ rfl) (by first | omega | (simp; omega) | simp) (by first | omega | (simp; omega) | simp) ?_); refine AL.no ?_; refine AL.ra ?_; refine AL.nil (AW.region (AL.rm ?_)); refine AL.r (jGQ (c := 256) rfl rfl rfl rfl rfl (by omega) (jBI _ (by omega))) ?_; refine AL.ra ?_; refine AL.nil (AW.region (AL.rm ?_)); refine AL.r (jAj rfl rfl rfl (rfl : _ = (2 : Int))) ?_; refine AL.ra ?_; refine AL.nil ?_
  refine AW.seq (AW.g (AL.rm ?_)); refine AL.r qb ?_; refine AL.nil (AW.cond_t rfl (AW.skip (AW.seq (AW.block (AW.g ?_))))); (iterate 2 refine AL.rm ?_); refine AL.r (jHg (c := 256) rfl rfl rfl rfl rfl (by omega)) ?_; refine AL.r (jAu rfl jEL ik_5 rfl (jD7 _)) ?_; refine AL.oq (AOpB.op (jCa rfl jBC ze_5 rfl rfl ?_)); refine AL.no ?_; refine AL.oq (jAz rfl jBC rfl rfl (jBQ rfl) (by first | omega | (simp; omega) | simp) (by first | omega | (simp; omega) | simp) ?_); refine AL.no ?_; refine AL.ra ?_; refine AL.nil (AW.region (AL.rm ?_)); refine AL.r (jGQ (c := 256) rfl rfl rfl rfl rfl (by omega) (jBI _ (by omega))) ?_; refine AL.ra ?_; refine AL.nil (AW.region (AL.rm ?_)); refine AL.r (jAj rfl rfl rfl (rfl : _ = (3 : Int))) ?_; refine AL.ra ?_; refine AL.nil (AW.seq (AW.g (AL.rm ?_))); refine AL.r qb ?_; refine AL.nil (AW.cond_t rfl (AW.skip (AW.seq (AW.block (AW.g ?_))))); (iterate 2 refine AL.rm ?_); refine AL.r (jHg (c := 256) rfl rfl rfl rfl rfl (by omega)) ?_; refine AL.r (jAu rfl jEL ik_5 rfl (jD7 _)) ?_; refine AL.oq (AOpB.op (jCa rfl jBC ze_5 rfl rfl ?_)); refine AL.no ?_; refine AL.oq (jAz rfl jBC rfl rfl (jBQ rfl) (by first | omega | (simp; omega) | simp) (by first | omega | (simp; omega) | simp) ?_); refine AL.no ?_
  refine AL.ra ?_; refine AL.nil (AW.region (AL.rm ?_)); refine AL.r (jGQ (c := 256) rfl rfl rfl rfl rfl (by omega) (jBI _ (by omega))) ?_; refine AL.ra ?_; refine AL.nil (AW.region (AL.rm ?_)); refine AL.r (jAj rfl rfl rfl (rfl : _ = (4 : Int))) ?_; refine AL.ra ?_; refine AL.nil (AW.seq (AW.g (AL.rm ?_))); refine AL.r qb ?_; refine AL.nil (AW.cond_f rfl (AW.exit ?_)); change AW _ _ _ _ _; refine AW.g (AL.rm ?_); refine AL.ra ?_; refine AL.nil (AW.ret (jDX rfl (ResV.tmp rfl) rfl ?_)); rw [four_eq]
section
variable (t : Nat → Nat) (ht : ∀ i, i < 256 → t i < 4294967296)
include ht
theorem rmore_c (s : Nat) (hs : s < 4294967296) (l : List UInt8) : AC Tryz.prog 140 [.sc (tabV t), .sc (.int .u32 (s : Int)), .sl (byA l)] (fun r => r = .s (.sc (.int .u32 (jCv t s l : Nat)))) := by
  refine AC.of' 25 1 Tryz.func140 rfl ?_; change AW _ _ _ _ [TK.mk 0 .off]; refine AW.g (AL.oq (AOpB.op (jA7 0 rfl rfl rfl ?_))); refine AL.n ?_; refine AL.ra ?_; refine AL.nil (AW.seq (AW.g (AL.len (x := .tmp 2) rfl (fun hlen => ?_)))); rw [jAd] at hlen; unfold maxLen at hlen; refine AL.ra ?_; refine AL.nil (AW.block (AW.loopM (ι := Nat) [8, 9, 10, 11, 12, 13, 14, 15, 16, 17, 18, 19, 20, 21, 22, 23, 24, 25, 26] (fun k => [(7, .sc (.int .i64 (k : Int))), (1, .sc (.int .u32 ((jCv t s (l.take k) : Nat) : Int)))]) [] (fun k => []) (fun k => k ≤ l.length) (fun k => l.length - k) 0 (Nat.zero_le _) wk sk ?_)); rintro k gs hJ; refine AW.nm ?_
  have hS := jE4 ht (l.take k) hs
  refine AW.seq (AW.g ?_); (iterate 2 refine AL.rm ?_); refine AL.r (lN jAC) ?_; refine AL.r qb ?_; refine AL.nil (AW.cd rfl (fun h11 => ?_) (fun h11 => ?_))
  ·refine AW.skip (AW.seq (AW.block (AW.region ?_)))
   have hkl : k < l.length := (by omega)
   have hy : l[k].toNat < 256 := UInt8.toNat_lt _
   have htx := ht (jCv t s (l.take k) % 256 ^^^ l[k].toNat) (jEz (by omega) hy)
   refine AL.rm ?_; refine AL.r (jHg (c := 256) rfl rfl rfl rfl rfl (by omega)) ?_; (iterate 2 refine AL.rm ?_); refine AL.r (jAc rfl jAC rfl rfl rfl (jAy (by omega)) rfl) ?_; refine AL.r (jAl rfl ag_5 rfl rfl) ?_; refine AL.r (jAu rfl jCN jIO rfl (jBI _ (by omega))) ?_; refine AL.r (jJa rfl rfl rfl (u32_xor_nat _ _ (by omega) (by omega))) ?_; refine AL.r (jEx (i := jCv t s (l.take k) % 256 ^^^ l[k].toNat) rfl ar_51 rfl rfl rfl rfl (jEz (by omega) hy)) ?_; refine AL.r (jE8 rfl ag_49 rfl rfl (by first | exact jMN t (jEz (by omega) hy) | exact jFY t (jEz (by omega) hy))) ?_; refine AL.rm ?_; refine AL.r (jGQ (c := 256) rfl rfl rfl rfl rfl (by omega) (jBI _ (by omega))) ?_; refine AL.r (jJa rfl rfl rfl (u32_xor_nat _ _ (by omega) (by omega))) ?_; refine AL.ra ?_; refine AL.nil ?_
   refine AW.region ?_; rw [show t (jCv t s (l.take k) % 256 ^^^ (l[k]'(by omega)).toNat) ^^^ jCv t s (l.take k) / 256 = jCv t s (l.take (k + 1)) from (jHl t s l k (by omega)).symm]; refine AL.rm ?_; refine AL.r qA ?_; refine AL.ra ?_; refine AL.nil ?_; refine ⟨k + 1, ?_, by first | omega | (simp only []; omega), ?_, ?_⟩
   ·show k + 1 ≤ l.length; omega
   ·exact wk
   exact sk
  refine AW.exit ?_; change AW _ _ _ _ _; refine AW.g (AL.rm ?_); refine AL.ra ?_; refine AL.nil (AW.ret (r1t ?_)); rw [List.take_of_length_le (by omega)]
theorem rof_c (l : List UInt8) : AC Tryz.prog 103 [.sc (tabV t), .sl (byA l)] (fun r => r = .s (.sc (.int .u32 (ofN t l : Nat)))) := by
  have hm := jE4 ht l (s := 4294967295) (by omega)
  refine AC.of' 7 1 Tryz.func103 rfl ?_; change AW _ _ _ _ [TK.mk 0 .off]; refine AW.g (AL.oq (AOpB.op (jA7 0 rfl rfl rfl ?_))); refine AL.n ?_; refine AL.ra ?_; refine AL.nil (AW.g (AL.r (jBq rfl jCU rfl rfl) ?_)); refine AL.rm ?_; refine AL.cl (rmore_c t ht 4294967295 (by omega) l) ?_; refine AL.n ?_; refine AL.r (jB4 rfl rfl rfl (show IntKind.u32.wrap ((4294967295 : Int) - (jCv t 4294967295 l : Nat)) = ((ofN t l : Nat) : Int) from by unfold ofN; rw [show (4294967295 : Int) - (jCv t 4294967295 l : Nat) = ((4294967295 - jCv t 4294967295 l : Nat) : Int) by omega]; exact jBI _ (by omega))) ?_; refine AL.ra ?_; refine AL.nil (AW.ret (r1t ?_)); rfl
end
set_option maxRecDepth 100000
section
variable (t : Nat → Nat) (ht : ∀ i, i < 256 → t i < 4294967296)
include ht
theorem rframe_c (b : List UInt8) (hb : b.length ≤ 4000000000) : AC Tryz.prog 53 [.sc (tabV t), .sl (byA b)] (fun r => r = .o 5 1 (byA (jEB t b))) := by
  refine AC.of' 24 8 Tryz.func53 rfl ?_; change AW _ _ _ _ [TK.mk 0 .off, TK.mk 0 .off, TK.mk 0 .off, TK.mk 0 .off, TK.mk 0 .off, TK.mk 0 .off, TK.mk 0 .off, TK.mk 0 .off]; refine AW.g (AL.oq (AOpB.op (jA7 0 rfl rfl rfl ?_))); refine AL.no ?_; refine AL.ra ?_; refine AL.nil (AW.g (AL.rm ?_)); refine AL.r (lN jAC) ?_; refine AL.r (jAu rfl iss_3 jIO rfl (jBI _ (by omega))) ?_; refine AL.oq (AOpB.op (jAb (four_c b.length (by omega)) rfl (by kernel_rfl) rfl (some 1) ?_)); rintro r rfl; refine ⟨_, rfl, ?_⟩; refine AL.no ?_; refine AL.ra ?_; refine AL.nil (AW.g (AL.oq (AOpB.op (jFi 2 rfl jBC ze_5 rfl rfl rfl ?_)))); refine AL.no ?_; refine AL.rm ?_; refine AL.oq (jAz rfl jBC rfl rfl (jD2 rfl rfl) (by simp [jAd, jBc]) (by simp [jAd, jBc]) ?_)
  refine AL.no ?_; refine AL.ra ?_; refine AL.nil (AW.g ?_); (iterate 2 refine AL.rm ?_); refine AL.oq (jAz rfl jBC rfl rfl (jBQ rfl) (by simp [jAd, jBc]; omega) (by simp [jAd, jBc]; omega) ?_); refine AL.no ?_; refine AL.ra ?_; refine AL.nil (AW.g (AL.rm ?_)); refine AL.r (jBq rfl jCU rfl rfl) ?_; refine AL.rm ?_; refine AL.settle 19 rfl rfl (by first | rfl | exact jBe _ _ _ _) ?_; refine AL.no ?_; refine AL.cl (rof_c t ht (leB 4 b.length ++ b)) ?_; refine AL.no ?_; refine AL.cl (four_c (ofN t (leB 4 b.length ++ b)) (jHn _)) ?_; refine AL.no ?_; refine AL.oq (jAz rfl jBC rfl rfl (jBQ rfl) (by simp [jAd, jBc]) (by simp [jAd, jBc]) ?_); refine AL.no ?_; refine AL.ra ?_; refine AL.nil (AW.g ?_); (iterate 2 refine AL.rm ?_); refine AL.oq (jAz rfl jBC rfl rfl (jBQ rfl) (by simp [jAd, jBc]; omega) (by simp [jAd, jBc]; omega) ?_); refine AL.no ?_; refine AL.ra ?_; refine AL.nil (AW.ret (jDX rfl (ResV.tmp rfl) rfl ?_)); simp [jEB]
theorem rget_c (l : List UInt8) (k : Nat) (hk : k ≤ l.length) (hl : l.length ≤ 1099511627776) : AC Tryz.prog 66 [.sl (byA l), .sc (.int .i64 (k : Int)), .sc (tabV t)] (fun r => r = .s (.tu [.sl (byA (gB t l k)), .sc (.int .i64 (gE t l k)), .sc (.bool (fget t (l.drop k)).isSome)])) := by
  obtain ⟨r, hr⟩ : ∃ r, r = l.drop k := ⟨_, rfl⟩
  have hrl : r.length = l.length - k := by rw [hr, List.length_drop]
  refine AC.of' 65 1 Tryz.func66 rfl ?_; change AW _ _ _ _ [TK.mk 0 .off]; refine AW.g (AL.oq (AOpB.op (jA7 0 rfl rfl rfl ?_))); refine AL.n ?_; (iterate 3 refine AL.ra ?_); refine AL.nil (AW.g ?_); (iterate 2 refine AL.rm ?_); refine AL.r (jBl rfl jAC rfl rfl rfl hk) ?_; rw [← hr]; refine AL.ra ?_; refine AL.nil (AW.seq (AW.g (AL.rm ?_))); refine AL.r (lN jAC) ?_; refine AL.r qb ?_; refine AL.nil (AW.cd rfl (fun h17 => ?_) (fun h17 => ?_))
  ·refine AW.g ?_; (iterate 3 refine AL.ra ?_); refine AL.nil (AW.ret (res3 rfl (ResV.tmp rfl) rfl (ResV.tmp rfl) rfl (ResV.tmp rfl) rfl ?_))
   (have hn : fget t (l.drop k) = none := (by rw [← hr]; exact jJF (by omega)); obtain ⟨e1, e2, e3⟩ := jJh hn; rw [e1, e2, show fget t r = none by rw [hr]; exact hn]; rfl)
  refine AW.skip (AW.seq (AW.draw (by kernel_rfl) ?_))
  have h4 : 4 ≤ r.length := (by omega)
  have b0 : r[0].toNat < 256 := UInt8.toNat_lt _; have b1 : r[1].toNat < 256 := UInt8.toNat_lt _; have b2 : r[2].toNat < 256 := UInt8.toNat_lt _; have b3 : r[3].toNat < 256 := UInt8.toNat_lt _
  have hn4 := num4 r h4
  refine AD.r 0 rfl (jAa rfl rfl) rfl ?_; refine AD.r 1 rfl (jAc (n := 0) rfl jAC rfl rfl rfl (jAy (by omega)) rfl) rfl ?_; refine AD.r 2 rfl (jAl rfl ag_5 rfl rfl) rfl ?_; refine AD.r 3 rfl (jAu rfl jCN ik_3 rfl (wrap_i64 _ (by omega))) rfl ?_; refine AD.r 4 rfl (jAa rfl rfl) rfl ?_; refine AD.r 5 rfl (jAc (n := 1) rfl jAC rfl rfl rfl (jAy (by omega)) rfl) rfl ?_; refine AD.r 6 rfl (jAl rfl ag_5 rfl rfl) rfl ?_; refine AD.r 7 rfl (jAu rfl jCN ik_3 rfl (wrap_i64 _ (by omega))) rfl ?_; refine AD.r 8 rfl (jEO rfl rfl rfl (by first | exact IntWalk.i64_in _ (by omega) | rfl)) rfl ?_; refine AD.r 9 rfl qA rfl ?_; refine AD.r 10 rfl (jAa rfl rfl) rfl ?_; refine AD.r 11 rfl (jAc (n := 2) rfl jAC rfl rfl rfl (jAy (by omega)) rfl) rfl ?_; refine AD.r 12 rfl (jAl rfl ag_5 rfl rfl) rfl ?_; refine AD.r 13 rfl (jAu rfl jCN ik_3 rfl (wrap_i64 _ (by omega))) rfl ?_; refine AD.r 14 rfl (jEO rfl rfl rfl (by first | exact IntWalk.i64_in _ (by omega) | rfl)) rfl ?_; refine AD.r 15 rfl qA rfl ?_; refine AD.r 16 rfl (jAa rfl rfl) rfl ?_; refine AD.r 17 rfl (jAc (n := 3) rfl jAC rfl rfl rfl (jAy (by omega)) rfl) rfl ?_; refine AD.r 18 rfl (jAl rfl ag_5 rfl rfl) rfl ?_; refine AD.r 19 rfl (jAu rfl jCN ik_3 rfl (wrap_i64 _ (by omega))) rfl ?_; refine AD.r 20 rfl (jEO rfl rfl rfl (by first | exact IntWalk.i64_in _ (by omega) | rfl)) rfl ?_; refine AD.r 21 rfl qA rfl ?_; refine AD.r 22 rfl (jCA rfl rfl) rfl ?_
  refine AD.done (by kernel_rfl) ?_; change AW _ _ _ _ _; refine AW.seq ?_; refine AW.seq ?_; refine AW.region ?_; rw [show ((r[0].toNat : Nat) : Int) + (256 : Int) * ((r[1].toNat : Nat) : Int) + (65536 : Int) * ((r[2].toNat : Nat) : Int) + (16777216 : Int) * ((r[3].toNat : Nat) : Int) = ((num (r.take 4) : Nat) : Int) by omega]; refine AL.rm ?_; refine AL.r qb ?_; refine AL.rm ?_; refine AL.fk (d := 42) rfl (fun h42 => ?_) (fun h42 => ?_)
  ·refine AL.n ?_; (iterate 5 refine AL.rf ?_); refine AL.r qt ?_; refine AL.nil (AW.cond_t rfl (AW.g ?_)); (iterate 3 refine AL.ra ?_); refine AL.nil (AW.ret (res3 rfl (ResV.tmp rfl) rfl (ResV.tmp rfl) rfl (ResV.tmp rfl) rfl ?_))
   (have hn : fget t (l.drop k) = none := (by rw [← hr]; exact jHQ (by omega)); obtain ⟨e1, e2, e3⟩ := jJh hn; rw [e1, e2, show fget t r = none by rw [hr]; exact hn]; rfl)
  refine AL.n ?_; refine AL.ro (jAa rfl rfl) ?_; refine AL.ro qA ?_; refine AL.ro (jAa rfl rfl) ?_; refine AL.ro (lN jAC) ?_; refine AL.ro qb ?_; refine AL.r qf ?_; refine AL.nil (AW.cd rfl (fun h48 => ?_) (fun h48 => ?_))
  ·refine AW.g ?_; (iterate 3 refine AL.ra ?_); refine AL.nil (AW.ret (res3 rfl (ResV.tmp rfl) rfl (ResV.tmp rfl) rfl (ResV.tmp rfl) rfl ?_))
   (have hn : fget t (l.drop k) = none := (by rw [← hr]; exact jHQ (by omega)); obtain ⟨e1, e2, e3⟩ := jJh hn; rw [e1, e2, show fget t r = none by rw [hr]; exact hn]; rfl)
  refine AW.skip ?_; change AW _ _ _ _ _; refine AW.seq ?_; refine AW.region ?_; (iterate 2 refine AL.rm ?_); refine AL.r qA ?_; refine AL.r (jIF rfl jAC rfl rfl rfl (m := 8) (n := 8 + num (r.take 4)) rfl (by omega) (by omega) (by omega)) ?_; rw [show List.drop 8 (List.take (8 + num (r.take 4)) r) = (r.drop 8).take (num (r.take 4)) from by rw [List.drop_take]; congr 1; omega]; refine AL.ra ?_; refine AL.nil ?_; change AW _ _ _ _ _; refine AW.seq ?_; refine AW.seq ?_; refine AW.draw (by kernel_rfl) ?_; refine AD.r 0 rfl (jBq rfl jCU rfl rfl) rfl ?_; refine AD.r 1 rfl (jAa rfl rfl) rfl ?_; refine AD.r 4 rfl (jAa rfl rfl) rfl ?_; refine AD.r 5 rfl (jAa rfl rfl) rfl ?_; refine AD.r 6 rfl qA rfl ?_; refine AD.r 7 rfl (jJ4 rfl jAC rfl rfl (n := 8 + num (r.take 4)) (by omega) (by omega)) rfl ?_; refine AD.r 8 rfl (jI9 rfl (by kernel_rfl) (jBQ rfl)) rfl ?_; refine AD.move 2 rfl (by kernel_rfl) rfl (jAb (rframe_c t ht ((r.drop 8).take (num (r.take 4))) (by rw [List.length_take]; omega)) rfl (by kernel_rfl) rfl (none) ?_); rintro r rfl; refine AD.n ?_; refine AD.r 3 rfl (jI9 rfl (by kernel_rfl) (jBQ rfl)) rfl ?_; refine AD.r 9 rfl (jEc rfl rfl rfl) rfl ?_; refine AD.done (by kernel_rfl) ?_; change AW _ _ _ _ _; refine AW.cd rfl (fun h62 => ?_) (fun h62 => ?_)
  ·refine AW.g ?_
   have hn : fget t (l.drop k) = none := (by rw [← hr]; exact jNb (by omega) (by omega) (by omega) (fun e => h62 ((jIA t r (by omega)).2 e)))
   (iterate 3 refine AL.ra ?_); refine AL.nil (AW.ret (res3 rfl (ResV.tmp rfl) rfl (ResV.tmp rfl) rfl (ResV.tmp rfl) rfl ?_))
   (obtain ⟨e1, e2, e3⟩ := jJh hn; rw [e1, e2, show fget t r = none by rw [hr]; exact hn]; rfl)
  refine AW.skip (AW.g ?_)
  have hy := fget_y (t := t) (r := r) (by omega) (by omega) (by omega) ((jIA t r (by omega)).1 h62)
  obtain ⟨e1, e2, e3⟩ := g_some (t := t) (l := l) (k := k) (b := (r.drop 8).take (num (r.take 4))) (by rw [← hr]; exact hy)
  (iterate 2 refine AL.rm ?_); refine AL.r qA ?_; refine AL.rm ?_; refine AL.r qA ?_; (iterate 3 refine AL.ra ?_); refine AL.nil (AW.ret (res3 rfl (ResV.tmp rfl) rfl (ResV.tmp rfl) rfl (ResV.tmp rfl) rfl ?_))
  (rw [e1, e2, hy]; simp [List.length_take, List.length_drop]; omega)
end
set_option maxRecDepth 100000
section
variable (t : Nat → Nat) (ht : ∀ i, i < 256 → t i < 4294967296)
include ht
end
end Go.Proofs.YtlapcfnmmpbeeaaGreat
