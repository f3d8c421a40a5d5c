/- The law PoolCatches, walked over abstract states. No conditions. -/
import Derived.Test.YtfjnkhanndkpfaaPlT
import Derived.Test.YtfjnkhanndkpfaaPlU
import Derived.Test.YtfjnkhanndkpfaaTab
namespace Go.Proofs.Ytfjnkhanndkpfaa
set_option linter.unusedSimpArgs false
set_option linter.unusedVariables false
set_option maxRecDepth 100000
set_option maxRecDepth 100000
open Go.RowKit

/-- Behind k of the ops that were told, the rest is lacking. -/
structure CatJ (p q : PoolD) (n : Int) (k : Nat) (r : PoolD) : Prop where
  kl : k ≤ (sinceL p (lensP q) n).length
  beg : Beg r p
  ok : OkP r
  gap : gaps r p = (gaps q p).drop k
section
variable {p q r : PoolD} {n : Int} {k : Nat}
theorem catJ_0 (h : Beg q p) (ho : OkP q) : CatJ p q n 0 q := ⟨Nat.zero_le _, h, ho, by simp⟩
theorem CatJ.next (hp : OkP p) (h : CatJ p q n k r) (hk : k < (sinceL p (lensP q) n).length) : putC r ((sinceL p (lensP q) n)[k]) = 0 ∧ CatJ p q n (k + 1) (putP r ((sinceL p (lensP q) n)[k])) := by
  have e := since_gaps (q := q) hp n
  have hk2 : k < (gaps q p).length := by rw [e, List.length_take] at hk; omega
  have hx : (sinceL p (lensP q) n)[k] = (gaps q p)[k] := by
    have : (sinceL p (lensP q) n)[k]? = ((gaps q p).take n.toNat)[k]? := by rw [e]
    rw [List.getElem?_eq_getElem hk, List.getElem?_take, List.getElem?_eq_getElem hk2] at this
    split at this
    · exact Option.some.inj this
    · cases this
  have hg : gaps r p = (sinceL p (lensP q) n)[k] :: (gaps q p).drop (k + 1) := by rw [h.gap, hx]; exact List.drop_eq_getElem_cons hk2
  obtain ⟨a, b, c⟩ := gaps_cons hp h.beg hg
  exact ⟨a, by omega, b, h.ok.put _, c⟩
theorem CatJ.end_ (hp : OkP p) (h : CatJ p q n k r) (hk : ¬ k < (sinceL p (lensP q) n).length) (hn : 1 ≤ n) {d : Nat} (hd : (gaps q p).length + d ≤ 60 ∨ gaps q p = []) : (gaps r p).length + (d + 1) ≤ 60 ∨ gaps r p = [] := by
  have e := since_gaps (q := q) hp n
  rw [e, List.length_take] at hk
  rcases hd with hd | hd
  · by_cases hz : (gaps r p).length = 0
    · exact .inr (List.eq_nil_of_length_eq_zero hz)
    · left
      rw [h.gap, List.length_drop] at hz ⊢
      omega
  · right; rw [h.gap, hd]; simp
end
theorem since_len {p : PoolD} (hp : OkP p) (v : VecD) (n : Int) : (sinceL p v n).length ≤ 400 := by
  have h1 := List.length_filter_le (lackV v) (catP p)
  have h2 := cat_len p
  have h3 := hp.tot
  unfold sinceL
  rw [List.length_take]
  unfold totP at h2
  omega
theorem gaps_60 {q p : PoolD} (h : totP p ≤ 60) : (gaps q p).length + 0 ≤ 60 ∨ gaps q p = [] := by
  left
  unfold gaps gapL totP at *
  simp only [List.length_append, List.length_drop]
  omega
set_option maxHeartbeats 4000000 in
theorem pcatches_c (l : List OpD) (v : VecD) (mo : Nat) (hmo : mo < 256) : AC Try.prog 7 [.sl (l.map OpD.cs), vecA v, .sc (.int .u8 (mo : Int))] (fun x => x = .s (AB true)) := by
  refine AC.of' 80 10 Try.func7 rfl ?_
  change AW _ _ _ _ [TK.mk 0 .off, TK.mk 0 .off, TK.mk 0 .off, TK.mk 0 .off, TK.mk 0 .off, TK.mk 0 .off, TK.mk 0 .off, TK.mk 0 .off, TK.mk 0 .off, TK.mk 0 .off]
  refine AW.seq ?_
  refine AW.region ?_
  refine AL.op rfl (AOpB.op (op_box 8 rfl rfl rfl rfl rfl ?_))
  refine AL.no ?_
  refine AL.ra ?_
  refine AL.nil ?_
  change AW _ _ _ _ _
  refine AW.seq ?_
  refine AW.seq ?_
  refine AW.region ?_
  refine AL.op rfl (AOpB.op (op_call (awake26) rfl (by kernel_rfl) rfl (none) ?_))
  rintro r rfl
  refine AL.no ?_
  refine AL.r (rd_un rfl rfl (fun _ => rfl)) ?_
  refine AL.nil ?_
  change AW _ _ _ _ _
  refine AW.cond_f rfl ?_
  refine AW.skip ?_
  change AW _ _ _ _ _
  refine AW.seq ?_
  refine AW.seq ?_
  refine AW.region ?_
  refine AL.rm ?_
  refine AL.op rfl (AOpB.op (op_call (rheavyos_c l 60) rfl (by kernel_rfl) rfl (none) ?_))
  rintro r rfl
  refine AL.no ?_
  refine AL.nil ?_
  change AW _ _ _ _ _
  refine AW.cd rfl (fun h20 => ?_) (fun h20 => ?_)
  ·skip
   refine AW.seq ?_
   refine AW.region ?_
   refine AL.ra ?_
   refine AL.nil ?_
   change AW _ _ _ _ _
   refine AW.ret ?_
   change ResA _ _ _ _ _
   refine res1 rfl (ResV.tmp rfl) rfl ?_
   rfl
  ·skip
   refine AW.skip ?_
   change AW _ _ _ _ _
   refine AW.seq ?_
   refine AW.region ?_
   have hl := (heavyOs_f (l := l) (most := 60) (by assumption)).1
   refine AL.rm ?_
   refine AL.op rfl (calloQ (filled_c l (by omega) 0 0 0 0 0 0 0) [0, 1, 2, 3, 4, 5, 6] ?_)
   rintro y os' ⟨m, p, hR, hml, rfl, a1, a2, a3, a4, a5, a6, rfl⟩
   refine AL.noQ ?_
   refine AL.rm ?_
   refine AL.r (rd_extract rfl rfl rfl) ?_
   refine AL.r (rd_extract rfl rfl rfl) ?_
   refine AL.r (rd_extract rfl rfl rfl) ?_
   refine AL.ra ?_
   refine AL.ra ?_
   refine AL.ra ?_
   refine AL.nil ?_
   change AW _ _ _ _ _
   refine AW.seq ?_
   refine AW.seq ?_
   refine AW.region ?_
   refine AL.rm ?_
   refine AL.r (rd_un rfl rfl (fun _ => rfl)) ?_
   refine AL.nil ?_
   change AW _ _ _ _ _
   refine AW.cond_f rfl ?_
   refine AW.skip ?_
   change AW _ _ _ _ _
   refine AW.seq ?_
   refine AW.region ?_
   refine AL.op rfl (calloQ (op_new 0) [7] ?_)
   rintro y os' ⟨rfl, rfl⟩
   refine AL.noQ ?_
   refine AL.ra ?_
   refine AL.nil ?_
   change AW _ _ _ _ _
   refine AW.seq ?_
   refine AW.seq ?_
   refine AW.region ?_
   have hok := hR.ok; have hlen := hR.len; have hsl := sort_len m; have hsc := hR.sort
   refine AL.rm ?_
   refine AL.op rfl (AOpB.op (op_call (rsorted_c m (by omega)) rfl (by kernel_rfl) rfl (none) ?_))
   rintro r rfl
   refine AL.no ?_
   refine AL.r (rd_len_sl rfl el_50 rfl) ?_
   refine AL.rm ?_
   refine AL.nil ?_
   change AW _ _ _ _ _
   refine AW.block ?_
   refine AW.loopM (ι := Nat × PoolD) [12, 34, 35, 36, 37, 38, 39, 40, 41, 42, 43, 44] (fun ⟨k, q⟩ => [(33, AI (k : Int))]) [9] (fun ⟨k, q⟩ => [(7, ⟨1, .obj (PoolP q)⟩)]) (fun ⟨k, q⟩ => k ≤ (sortO m).length ∧ Beg q p ∧ OkP q) (fun ⟨k, q⟩ => (sortO m).length - k) ⟨0, newP⟩ (⟨Nat.zero_le _, beg_new p, okP_new⟩) (by simp only [anys, upds, offs, List.set_cons_zero, List.set_cons_succ]; repeat (first | exact Wk.nil | refine Wk.same ?_ | refine Wk.any ?_)) (by simp only [anys, upds, offs, List.set_cons_zero, List.set_cons_succ]; repeat (first | exact Sk.nil _ | refine Sk.same _ ?_ | refine Sk.scr _ (by decide) ?_)) ?_
   rintro ⟨k, q⟩ gs hJ
   refine AW.norm (by simp only [anys, upds, offs, List.set_cons_zero, List.set_cons_succ]; rfl) (by (try simp only [anys, upds, offs, List.set_cons_zero, List.set_cons_succ]); (try rfl)) ?_
   obtain ⟨hk, hB, hq⟩ := hJ
   refine AW.seq ?_
   refine AW.region ?_
   refine AL.r (rd_bin rfl rfl rfl (fun _ => rfl)) ?_
   refine AL.nil ?_
   change AW _ _ _ _ _
   refine AW.seq ?_
   refine AW.cd rfl (fun h34 => ?_) (fun h34 => ?_)
   ·skip
    refine AW.skip ?_
    change AW _ _ _ _ _
    refine AW.seq ?_
    refine AW.block ?_
    refine AW.seq ?_
    refine AW.region ?_
    refine AL.r (rd_iaddr_sl rfl el_50 rfl rfl rfl (get_mapA (by omega)) rfl) ?_
    refine AL.r (rd_loadN_ep rfl ag_47 rfl (Nat.le_of_ble_eq_true rfl) rfl) ?_
    dsimp only [OpD.cs]
    refine AL.op rfl (AOpB.op (op_alloc 9 rfl ze_47 rfl ?_))
    refine AL.no ?_
    refine AL.op rfl (op_store_ rfl rfl rfl rfl rfl sz_47 ?_)
    refine AL.no ?_
    refine AL.nil ?_
    change AW _ _ _ _ _
    refine AW.seq ?_
    refine AW.region ?_
    refine AL.r (rd_loadN_bx rfl ag_58 rfl rfl (Nat.le_of_ble_eq_true rfl) rfl) ?_
    refine AL.r (rd_faddr_bx rfl fo_47_0 rfl rfl ⟨_, _, rfl⟩) ?_
    refine AL.r (rd_loadN_bx rfl ag_44 rfl rfl (Nat.le_of_ble_eq_true rfl) rfl) ?_
    refine AL.op rfl (AOpB.op (op_call (rhas_c v ((sortO m)[k]'(by omega)).id) rfl (by kernel_rfl) rfl (none) ?_))
    rintro r rfl
    refine AL.no ?_
    refine AL.nil ?_
    change AW _ _ _ _ _
    refine AW.cd rfl (fun h40 => ?_) (fun h40 => ?_)
    ·skip
     refine AW.region ?_
     refine AL.rm ?_
     refine AL.r (rd_loadN_bx rfl ag_47 rfl rfl (Nat.le_of_ble_eq_true rfl) rfl) ?_
     refine AL.op rfl (calloQ (op_put hq 1 ((sortO m)[k]'(by omega))) [7] ?_)
     rintro y os' ⟨rfl, rfl⟩
     refine AL.noQ ?_
     refine AL.nil ?_
     change AW _ _ _ _ _
     refine AW.region ?_
     refine AL.r (rd_arith_add rfl rfl rfl (by first | exact IntWalk.i64_in _ (by omega) | rfl)) ?_
     refine AL.rm ?_
     refine AL.nil ?_
     first
       | refine ⟨⟨k + 1, putP q ((sortO m)[k]'(by omega))⟩, ?_, ?_, ?_, ?_⟩
         ·exact ⟨by omega, beg_any hok hB (by rw [← hsc]; exact List.getElem_mem _), hq.put _⟩
         ·first | omega | (simp only []; omega)
         ·simp only [anys, upds, offs, List.set_cons_zero, List.set_cons_succ]; repeat (first | exact Wk.nil | refine Wk.same ?_ | refine Wk.any ?_)
         ·simp only [anys, upds, offs, List.set_cons_zero, List.set_cons_succ]; repeat (first | exact Sk.nil _ | refine Sk.same _ ?_ | refine Sk.scr _ (by decide) ?_)
       | refine ⟨⟨k + 1, q⟩, ?_, ?_, ?_, ?_⟩
         ·exact ⟨by omega, hB, hq⟩
         ·first | omega | (simp only []; omega)
         ·simp only [anys, upds, offs, List.set_cons_zero, List.set_cons_succ]; repeat (first | exact Wk.nil | refine Wk.same ?_ | refine Wk.any ?_)
         ·simp only [anys, upds, offs, List.set_cons_zero, List.set_cons_succ]; repeat (first | exact Sk.nil _ | refine Sk.same _ ?_ | refine Sk.scr _ (by decide) ?_)
    ·skip
     refine AW.skip ?_
     change AW _ _ _ _ _
     refine AW.region ?_
     refine AL.r (rd_arith_add rfl rfl rfl (by first | exact IntWalk.i64_in _ (by omega) | rfl)) ?_
     refine AL.rm ?_
     refine AL.nil ?_
     refine ⟨⟨k + 1, q⟩, ?_, by first | omega | (simp only []; omega), ?_, ?_⟩
     ·exact ⟨by omega, hB, hq⟩
     ·simp only [anys, upds, offs, List.set_cons_zero, List.set_cons_succ]; repeat (first | exact Wk.nil | refine Wk.same ?_ | refine Wk.any ?_)
     ·simp only [anys, upds, offs, List.set_cons_zero, List.set_cons_succ]; repeat (first | exact Sk.nil _ | refine Sk.same _ ?_ | refine Sk.scr _ (by decide) ?_)
   ·skip
    refine AW.exit ?_
    change AW _ _ _ _ _
    refine AW.seq ?_
    refine AW.region ?_
    refine AL.rm ?_
    refine AL.r (rd_rem (c := 8) rfl rfl rfl rfl rfl (by omega)) ?_
    refine AL.r (rd_conv_int rfl iss_5 ik_3 rfl (wrap_i64 _ (by omega))) ?_
    refine AL.r (rd_arith_add rfl rfl rfl (by first | exact IntWalk.i64_in _ (by omega) | rfl)) ?_
    refine AL.ra ?_
    refine AL.nil ?_
    change AW _ _ _ _ _
    refine AW.seq ?_
    refine AW.seq ?_
    refine AW.region ?_
    refine AL.ra ?_
    refine AL.nil ?_
    change AW _ _ _ _ _
    refine AW.block ?_
    refine AW.loopM (ι := Nat × PoolD) [6, 15, 16, 49, 50, 51, 52, 53, 54, 55, 56, 57, 58, 59, 60, 61, 62, 63, 64, 65, 66, 67, 68, 69, 70] (fun ⟨j, q⟩ => [(14, AI (j : Int))]) [] (fun ⟨j, q⟩ => [(7, ⟨1, .obj (PoolP q)⟩)]) (fun ⟨j, q⟩ => j ≤ 61 ∧ Beg q p ∧ OkP q ∧ ((gaps q p).length + j ≤ 60 ∨ gaps q p = [])) (fun ⟨j, q⟩ => 61 - j) ⟨0, q⟩ (⟨Nat.zero_le _, hB, hq, gaps_60 (by omega)⟩) (by simp only [anys, upds, offs, List.set_cons_zero, List.set_cons_succ]; repeat (first | exact Wk.nil | refine Wk.same ?_ | refine Wk.any ?_)) (by simp only [anys, upds, offs, List.set_cons_zero, List.set_cons_succ]; repeat (first | exact Sk.nil _ | refine Sk.same _ ?_ | refine Sk.scr _ (by decide) ?_)) ?_
    rintro ⟨j, q⟩ gs hJ
    refine AW.norm (by simp only [anys, upds, offs, List.set_cons_zero, List.set_cons_succ]; rfl) (by (try simp only [anys, upds, offs, List.set_cons_zero, List.set_cons_succ]); (try rfl)) ?_
    obtain ⟨hj, hB, hq, hgp⟩ := hJ
    refine AW.seq ?_
    refine AW.seq ?_
    refine AW.region ?_
    refine AL.rm ?_
    refine AL.r (rd_bin rfl rfl rfl (fun _ => rfl)) ?_
    refine AL.nil ?_
    change AW _ _ _ _ _
    refine AW.cd rfl (fun h50 => ?_) (fun h50 => ?_)
    ·skip
     refine AW.skip ?_
     change AW _ _ _ _ _
     refine AW.seq ?_
     refine AW.block ?_
     refine AW.seq ?_
     refine AW.region ?_
     refine AL.rm ?_
     refine AL.rm ?_
     refine AL.op rfl (calloQ (op_have (p := q) 1) [7] ?_)
     rintro y os' ⟨rfl, rfl⟩
     refine AL.noQ ?_
     refine AL.rm ?_
     refine AL.op rfl (calloQ (psince_c p hok 1 a1 a2 a3 a4 a5 a6 (lensP q) (1 + ((mo % 8 : Nat) : Int))) [0, 1, 2, 3, 4, 5, 6] ?_)
     rintro y os' ⟨rfl, rfl⟩
     refine AL.noQ ?_
     refine AL.ra ?_
     refine AL.nil ?_
     change AW _ _ _ _ _
     refine AW.seq ?_
     refine AW.region ?_
     refine AL.ra ?_
     refine AL.nil ?_
     change AW _ _ _ _ _
     refine AW.block ?_
     refine AW.loopM (ι := Nat × PoolD) [6, 58, 59, 60, 61, 62, 63, 64, 65, 66, 67, 68, 69, 70] (fun ⟨k, r⟩ => [(16, AI (k : Int))]) [] (fun ⟨k, r⟩ => [(7, ⟨1, .obj (PoolP r)⟩)]) (fun ⟨k, r⟩ => CatJ p q (1 + ((mo % 8 : Nat) : Int)) k r) (fun ⟨k, r⟩ => (sinceL p (lensP q) (1 + ((mo % 8 : Nat) : Int))).length - k) ⟨0, q⟩ (catJ_0 hB hq) (by simp only [anys, upds, offs, List.set_cons_zero, List.set_cons_succ]; repeat (first | exact Wk.nil | refine Wk.same ?_ | refine Wk.any ?_)) (by simp only [anys, upds, offs, List.set_cons_zero, List.set_cons_succ]; repeat (first | exact Sk.nil _ | refine Sk.same _ ?_ | refine Sk.scr _ (by decide) ?_)) ?_
     rintro ⟨k, r⟩ gs hJ
     refine AW.norm (by simp only [anys, upds, offs, List.set_cons_zero, List.set_cons_succ]; rfl) (by (try simp only [anys, upds, offs, List.set_cons_zero, List.set_cons_succ]); (try rfl)) ?_
     have hkk := hJ.kl
     have hxl := since_len hok (lensP q) (1 + ((mo % 8 : Nat) : Int))
     refine AW.seq ?_
     refine AW.seq ?_
     refine AW.region ?_
     refine AL.rm ?_
     refine AL.rm ?_
     refine AL.r (rd_len_sl rfl el_50 rfl) ?_
     refine AL.r (rd_bin rfl rfl rfl (fun _ => rfl)) ?_
     refine AL.nil ?_
     change AW _ _ _ _ _
     refine AW.cd rfl (fun h61 => ?_) (fun h61 => ?_)
     ·skip
      refine AW.skip ?_
      change AW _ _ _ _ _
      refine AW.seq ?_
      refine AW.block ?_
      refine AW.seq ?_
      refine AW.region ?_
      have hkl : k < (sinceL p (lensP q) (1 + ((mo % 8 : Nat) : Int))).length := (by omega)
      obtain ⟨hn1, hn2⟩ := hJ.next hok hkl
      refine AL.rm ?_
      refine AL.rm ?_
      refine AL.rm ?_
      refine AL.r (rd_iaddr_sl rfl el_50 rfl rfl rfl (get_mapA (by omega)) rfl) ?_
      refine AL.r (rd_loadN_ep rfl ag_47 rfl (Nat.le_of_ble_eq_true rfl) rfl) ?_
      refine AL.op rfl (calloQ (op_put hJ.ok 1 ((sinceL p (lensP q) (1 + ((mo % 8 : Nat) : Int)))[k]'(by omega))) [7] ?_)
      rintro y os' ⟨rfl, rfl⟩
      refine AL.noQ ?_
      refine AL.r (rd_bin rfl rfl rfl (fun _ => rfl)) ?_
      refine AL.nil ?_
      change AW _ _ _ _ _
      refine AW.cd rfl (fun h70 => ?_) (fun h70 => ?_)
      ·skip
       exact (h70 hn1).elim
      ·skip
       refine AW.skip ?_
       change AW _ _ _ _ _
       refine AW.region ?_
       refine AL.rm ?_
       refine AL.r (rd_arith_add rfl rfl rfl (by first | exact IntWalk.i64_in _ (by omega) | rfl)) ?_
       refine AL.ra ?_
       refine AL.nil ?_
       refine ⟨⟨k + 1, putP r ((sinceL p (lensP q) (1 + ((mo % 8 : Nat) : Int)))[k]'(by omega))⟩, ?_, by first | omega | (simp only []; omega), ?_, ?_⟩
       ·exact hn2
       ·simp only [anys, upds, offs, List.set_cons_zero, List.set_cons_succ]; repeat (first | exact Wk.nil | refine Wk.same ?_ | refine Wk.any ?_)
       ·simp only [anys, upds, offs, List.set_cons_zero, List.set_cons_succ]; repeat (first | exact Sk.nil _ | refine Sk.same _ ?_ | refine Sk.scr _ (by decide) ?_)
     ·skip
      refine AW.exit ?_
      change AW _ _ _ _ _
      refine AW.region ?_
      refine AL.rm ?_
      refine AL.r (rd_arith_add rfl rfl rfl (by first | exact IntWalk.i64_in _ (by omega) | rfl)) ?_
      refine AL.ra ?_
      refine AL.nil ?_
      refine ⟨⟨j + 1, r⟩, ?_, by first | omega | (simp only []; omega), ?_, ?_⟩
      ·exact ⟨by omega, hJ.beg, hJ.ok, hJ.end_ hok (by omega) (by omega) hgp⟩
      ·simp only [anys, upds, offs, List.set_cons_zero, List.set_cons_succ]; repeat (first | exact Wk.nil | refine Wk.same ?_ | refine Wk.any ?_)
      ·simp only [anys, upds, offs, List.set_cons_zero, List.set_cons_succ]; repeat (first | exact Sk.nil _ | refine Sk.same _ ?_ | refine Sk.scr _ (by decide) ?_)
    ·skip
     refine AW.exit ?_
     change AW _ _ _ _ _
     refine AW.seq ?_
     refine AW.region ?_
     have hgn : gaps q p = [] := (by rcases hgp with e | e; (exfalso; omega); exact e)
     have hsame := gaps_nil hB hgn
     refine AL.rm ?_
     refine AL.op rfl (calloQ (pops_c p hok 1 a1 a2 a3 a4 a5 a6) [0, 1, 2, 3, 4, 5, 6] ?_)
     rintro y os' ⟨rfl, rfl⟩
     refine AL.noQ ?_
     refine AL.rm ?_
     refine AL.op rfl (calloQ (op_ops hq 1) [7] ?_)
     rintro y os' ⟨rfl, rfl⟩
     refine AL.noQ ?_
     refine AL.op rfl (AOpB.op (op_call (sameops_t (by rw [ops_cat hok, ops_cat hq, same_cat hsame])) rfl (by kernel_rfl) rfl (none) ?_))
     rintro r rfl
     refine AL.no ?_
     refine AL.rm ?_
     refine AL.ro (rd_move rfl rfl) ?_
     refine AL.on rfl rfl rfl (calloQ (phave_c p 1 a1 a2 a3 a4 a5 a6) [0, 1, 2, 3, 4, 5, 6] ?_)
     rintro y os' ⟨rfl, rfl⟩
     refine AL.noQ ?_
     refine AL.ro (rd_move rfl rfl) ?_
     refine AL.on rfl rfl rfl (calloQ (op_have (p := q) 1) [7] ?_)
     rintro y os' ⟨rfl, rfl⟩
     refine AL.noQ ?_
     refine AL.ro (rd_eq_Vector rfl rfl rfl) ?_
     refine AL.r (rd_pick_t rfl rfl rfl) ?_
     refine AL.ra ?_
     refine AL.nil ?_
     change AW _ _ _ _ _
     refine AW.ret ?_
     change ResA _ _ _ _ _
     refine res1 rfl (ResV.tmp rfl) rfl ?_
     rw [decide_eq_true (by unfold lensP; rw [hsame 0 (by omega), hsame 1 (by omega), hsame 2 (by omega), hsame 3 (by omega), hsame 4 (by omega), hsame 5 (by omega)]; exact ⟨rfl, rfl, rfl, rfl, rfl, rfl⟩)]
theorem walk_PoolCatches (w : World) (v0 : Value) (l0 : List OpD) (rp0 : RepS AnyB w v0 (.sl (l0.map OpD.cs))) (v1 : Value) (x1 : VecD) (rp1 : RepS AnyB w v1 (vecA x1)) (a2 : Int) (w2 : (Lit.int .u8 a2).wf = true) :
    Calls Try.prog 7 #[v0, v1, .int .u8 a2] w fun e w' => e = .returned (.bool true) ∧ Below w.heap.size w w' := by
  have hb := bounds_u8 w2
  obtain ⟨mo, rfl⟩ : ∃ m : Nat, a2 = (m : Int) := ⟨a2.toNat, by omega⟩
  exact (pcatches_c l0 x1 mo (by omega)).law (vs := [v0, v1, .int .u8 (mo : Int)]) rfl (rep_cons rp0 (rep_cons rp1 (rep_cons (.sc _) rep_nil)))
end Go.Proofs.Ytfjnkhanndkpfaa
