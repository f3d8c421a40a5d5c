/- A part of a proof. -/
import Derived.Test.YtlapcfnmmpbeeaaGreatPO33
import Derived.Test.YtlapcfnmmpbeeaaGreatPO36
set_option linter.unusedSimpArgs false
set_option linter.unusedVariables false
namespace Go.Proofs.YtlapcfnmmpbeeaaGreat
set_option maxRecDepth 100000
set_option maxRecDepth 100000
open Go.RowKit
structure NoteD.Wf (n : NoteD) : Prop where
  kind : i64R n.kind
  from_ : i64R n.from_
  fmt : i64R n.fmt
  have_ : n.have_.Wf
  tags : ∀ t ∈ n.tags, i64R t.rep ∧ i64R t.n
  edges : ∀ e ∈ n.edges, e.Wf
  ops : ∀ o ∈ n.ops, o.Wf
def fb (f : Int) : UInt8 := if f = 1 then 1 else 2
theorem fb_wrap {f : Int} (h : okF f = true) : IntKind.u8.wrap f = (((fb f).toNat : Nat) : Int) := by
  rcases okF_iff.1 h with rfl | rfl <;> decide
def n2 (f : Int) (n : NoteD) : List UInt8 := [fb f] ++ putN f n.kind
def n3 (f : Int) (n : NoteD) : List UInt8 := n2 f n ++ putN f n.from_
def n4 (f : Int) (n : NoteD) : List UInt8 := n3 f n ++ putN f n.fmt
def n5 (f : Int) (n : NoteD) : List UInt8 := n4 f n ++ vecP f n.have_
def jHi (f : Int) (n : NoteD) : List UInt8 :=
  if n.kind = 1 then lstP (tagP f) (n5 f n) f n.tags n.tags.length
  else if n.kind = 2 then lstP (putE f) (n3 f n) f n.edges n.edges.length
  else if n.kind = 3 then lstP (putO f) (n3 f n) f n.ops n.ops.length
  else n3 f n ++ vecP f n.have_
theorem n5_len (f : Int) (n : NoteD) : (n2 f n).length ≤ 200 ∧ (n3 f n).length ≤ 200 ∧ (n4 f n).length ≤ 200 ∧ (n5 f n).length ≤ 200 := by
  have := jAG f n.kind; have := jAG f n.from_; have := jAG f n.fmt; have := jHS f n.have_
  unfold n5 n4 n3 n2
  simp only [List.length_append, List.length_cons, List.length_nil]; omega
theorem jF5 {f : Int} : ∀ {l : List PairD}, (∀ p ∈ l, p.from_.length ≤ 12 ∧ p.tQ.length ≤ 12) → (l.flatMap (pairP f)).length ≤ 44 * l.length
  | [], _ => by simp
  | p :: l, h => by
    have h1 := h p (by simp)
    have := jBg f p.from_; have := jBg f p.tQ; have := jF5 (f := f) (l := l) (fun q hq => h q (by simp [hq]))
    simp only [List.flatMap_cons, List.length_append, List.length_cons, pairP]; omega
theorem jII {f : Int} : ∀ {l : List jAU}, (∀ c ∈ l, c.length ≤ 12) → (l.flatMap (jC5 f)).length ≤ 22 * l.length
  | [], _ => by simp
  | p :: l, h => by
    have h1 := h p (by simp)
    have := jBg f p; have := jII (f := f) (l := l) (fun q hq => h q (by simp [hq]))
    simp only [List.flatMap_cons, List.length_append, List.length_cons]; omega
theorem jMe {f : Int} {x : FldD} (h : jBk x = true) : (putF f x).length ≤ 1000 := by
  obtain ⟨⟨a, b⟩, c, d, e, _⟩ := jEr h
  have a1 := jFa f x.at_; have a2 := jAG f x.kind; have a3 := jBg f x.dflt; have a4 := jAG f (x.cases.length : Nat); have a5 := jAG f x.worth
  have a6 := jII (f := f) e
  unfold putF pf5 pf4 pf3 pf2 pf1
  simp only [List.length_append, List.take_length]
  omega
theorem jM1 {f : Int} {x : LensD} (h : jB2 x = true) : (putX f x).length ≤ 3000 := by
  obtain ⟨⟨a, b⟩, c, d, ⟨e1, e2⟩, ⟨g1, g2⟩, k⟩ := jJI h
  have a1 := jAG f x.kind; have a2 := jFa f x.at_; have a3 := jBg f x.name; have a4 := jBg f x.other; have a5 := jAG f x.factor
  have a6 := jAG f (x.forth.length : Nat); have a7 := jAG f (x.back.length : Nat)
  have b1 := jF5 (f := f) e2; have b2 := jF5 (f := f) g2
  have b3 : (if jFM x.kind then putF f x.field else []).length ≤ 1000 := by
    split
    · rename_i ha
      rw [if_pos ha] at k
      exact jMe k
    simp
  unfold putX px7 px6 px5 px4 px3 px2 px1 putPr
  simp only [List.length_append, List.take_length]
  omega
theorem jK8 {f : Int} : ∀ {l : List TagD}, (l.flatMap (tagP f)).length ≤ 20 * l.length
  | [] => by simp
  | p :: l => by
    have := jEX f p; have := jK8 (f := f) (l := l)
    simp only [List.flatMap_cons, List.length_append, List.length_cons]; omega
theorem jMr {f : Int} {o : OpD} (h : jBs o = true) : (putO f o).length ≤ 3000 := by
  obtain ⟨a, b, ⟨c, d⟩, e, g⟩ := jLJ h
  have a1 := jEX f o.id; have a2 := jEX f o.schema; have a3 := jAG f o.time; have a4 := jBg f o.cart; have a5 := jAG f o.kind; have a6 := jBg f o.item; have a7 := jFa f o.at_; have a8 := jAG f o.delta; have a9 := jBg f o.text; have a10 := jAG f (o.drops.length : Nat); have a11 := jK8 (f := f) (l := o.drops)
  have a12 : (jGR o.has).length = 1 := rfl
  unfold putO po12 po11 po10 po9 po8 po7 po6 po5 po4 po3 po2 po1
  simp only [List.length_append, List.take_length]
  omega
theorem noteB_1 {n : NoteD} (h : jBn n = true) (hk : n.kind = 1) : (n.fmt = 1 ∨ n.fmt = 2) ∧ vecB n.have_ = true ∧ risT n.tags = true ∧ n.edges = [] ∧ n.ops = [] := by
  unfold jBn at h
  rw [if_pos hk] at h
  simp only [Bool.and_eq_true, Bool.or_eq_true, beq_iff_eq, decide_eq_true_eq] at h
  obtain ⟨_, ⟨⟨⟨h1, h2⟩, h3⟩, h4⟩, h5⟩ := h
  exact ⟨h1, h2, h3, List.eq_nil_of_length_eq_zero h4, List.eq_nil_of_length_eq_zero h5⟩
theorem noteB_o {n : NoteD} (h : jBn n = true) (hk : ¬ n.kind = 1) : n.fmt = 0 ∧ n.tags = [] ∧ (n.kind = 4 ∧ vecB n.have_ = true ∧ n.edges = [] ∧ n.ops = [] ∨ n.have_ = z6 ∧ (n.kind = 2 ∧ chB jDE n.edges = true ∧ n.ops = [] ∨ n.kind = 3 ∧ chB jBs n.ops = true ∧ n.edges = [])) := by
  unfold jBn at h
  rw [if_neg hk] at h
  simp only [Bool.and_eq_true, decide_eq_true_eq] at h
  obtain ⟨_, ⟨h1, h2⟩, h3⟩ := h
  refine ⟨h1, List.eq_nil_of_length_eq_zero h2, ?_⟩
  split at h3
  · rename_i hk4
    simp only [Bool.and_eq_true, decide_eq_true_eq] at h3
    exact .inl ⟨hk4, h3.1.1, List.eq_nil_of_length_eq_zero h3.1.2, List.eq_nil_of_length_eq_zero h3.2⟩
  simp only [Bool.and_eq_true, decide_eq_true_eq] at h3
  refine .inr ⟨h3.1, ?_⟩; obtain ⟨_, h3⟩ := h3
  split at h3
  · rename_i hk2
    simp only [Bool.and_eq_true, decide_eq_true_eq] at h3
    exact .inl ⟨hk2, h3.1, List.eq_nil_of_length_eq_zero h3.2⟩
  split at h3
  · rename_i hk3
    simp only [Bool.and_eq_true, decide_eq_true_eq] at h3
    exact .inr ⟨hk3, h3.1, List.eq_nil_of_length_eq_zero h3.2⟩
  cases h3
theorem jKg {α : Type} {p : α → Bool} {l : List α} (h : chB p l = true) : l.length ≤ 6 ∧ ∀ x ∈ l, p x = true := by
  unfold chB at h
  simp only [Bool.and_eq_true, decide_eq_true_eq, List.all_eq_true] at h
  exact ⟨h.1.2, h.2⟩
theorem jMt {l : List TagD} (h : risT l = true) : l.length ≤ 40 := by
  unfold risT at h
  simp only [Bool.and_eq_true, decide_eq_true_eq] at h
  exact h.1
theorem jLm {f : Int} {n : NoteD} (h : jBn n = true) : (jHi f n).length ≤ 30000 := by
  obtain ⟨l2, l3, l4, l5⟩ := n5_len f n
  unfold jHi
  by_cases h1 : n.kind = 1
  · rw [if_pos h1]
    have ht := jMt (noteB_1 h h1).2.2.1
    have := jHL (p := tagP f) (b := n5 f n) (f := f) (fun x (_ : x ∈ n.tags) => jEX f x) n.tags.length (Nat.le_refl _)
    omega
  rw [if_neg h1]
  obtain ⟨_, _, h2⟩ := noteB_o h h1
  rcases h2 with ⟨k, _⟩ | ⟨_, ⟨k, hc, _⟩ | ⟨k, hc, _⟩⟩
  · rw [if_neg (by omega), if_neg (by omega), List.length_append]
    have := jHS f n.have_
    omega
  · rw [if_pos k]
    obtain ⟨c1, c2⟩ := jKg hc
    have hm : ∀ x ∈ n.edges, (putE f x).length ≤ 3100 := fun x hx => by
      have a := jM1 (f := f) (jMM (c2 x hx)); have b := jEX f x.id; have c := jEX f x.par
      unfold putE
      simp only [List.length_append]; omega
    have := jHL (p := putE f) (b := n3 f n) (f := f) hm n.edges.length (Nat.le_refl _)
    omega
  rw [if_neg (by omega), if_pos k]
  obtain ⟨c1, c2⟩ := jKg hc
  have := jHL (p := putO f) (b := n3 f n) (f := f) (fun x hx => jMr (f := f) (c2 x hx)) n.ops.length (Nat.le_refl _)
  omega
theorem jE9 (f : Int) (h : okF f = true) : AC Tryz.prog 20 [.sc (.int .i64 f)] (fun r => r = .s (AB true)) := (jE1 f).mono fun r hr => by rw [hr]; refine sb ?_; rcases okF_iff.1 h with rfl | rfl <;> rfl
theorem cright_f (f : Int) (h : okF f = false) : AC Tryz.prog 20 [.sc (.int .i64 f)] (fun r => r = .s (AB false)) := (jE1 f).mono fun r hr => by
  rw [hr]; refine sb ?_
  unfold okF at h
  simpa using h
theorem tright_t (n : NoteD) (h : jBn n = true) : AC Tryz.prog 8 [n.av] (fun r => r = .s (AB true)) := (jER n).mono fun r hr => by rw [hr, h]
theorem jKY {P : Program} {fn : Func} {R : RS → Prop} {t : List AV} {st : List TK} {r1 r2 : ResultVar} {k g : Nat} {el : TypeId} {sz : Nat} {xs : List (List AV)} {v2 : Value} (hr : fn.results = #[r1, r2]) (h1 : ResV P t st r1 (.ow k g)) (hk : st[k]? = some ⟨g, .own el sz xs⟩) (h2 : ResV P t st r2 (.sc v2)) (h : R (.ot el sz xs [.sc v2])) : ResA P fn R t st := fun F ρ w0 w a h0 hs hm => by
  obtain ⟨u1, g1, q1⟩ := h1.run hs hm
  obtain ⟨u2, g2, q2⟩ := h2.run hs hm
  refine ⟨.tuple #[u1, u2], .ot el sz xs [.sc v2], ?_, ⟨_, _, #[u2], by rw [q1.ow_inv hk]; rfl, hs.repOb h0 hk, rfl, fun j v x hv hx => ?_⟩, h⟩
  · rw [jGi, hr]
    simp [Sem.run_bind, g1, g2]
  match j with
  | 0 => simp at hv hx; subst hv hx; rw [q2.of_sc]; exact .sc _
  | j + 1 => simp at hx
section
variable (t : Nat → Nat) (ht : ∀ i, i < 256 → t i < 4294967296)
include ht
theorem fput_o (b : List UInt8) (hb : b.length ≤ 60000) : AC Tryz.prog 52 [.sl (byA []), .sc (tabV t), .sl (byA b)] (fun r => r = .ot 5 1 (byA (jEB t b)) [AI 0]) := by
  refine AC.of' 39 6 Tryz.func52 rfl ?_; change AW _ _ _ _ [TK.mk 0 .off, TK.mk 0 .off, TK.mk 0 .off, TK.mk 0 .off, TK.mk 0 .off, TK.mk 0 .off]; refine AW.g (AL.oq (AOpB.op (jA7 0 rfl rfl rfl ?_))); refine AL.n ?_; (iterate 2 refine AL.ra ?_); refine AL.nil (AW.seq (AW.g (AL.rm ?_))); refine AL.r (lN jAC) ?_; refine AL.r qb ?_; refine AL.nil (AW.cd rfl (fun h12 => ?_) (fun h12 => ?_))
  ·(exfalso; omega)
  refine AW.skip (AW.g (AL.rm ?_)); refine AL.r (lN jAC) ?_; refine AL.r (jAu rfl iss_3 jIO rfl (show IntKind.u32.wrap (b.length : Int) = ((b.length : Nat) : Int) from jBI _ (by omega))) ?_; refine AL.cl (low_c b.length (by omega)) ?_; refine AL.n ?_; refine AL.ra ?_; refine AL.nil (AW.g (AL.rm ?_)); refine AL.r (lN jAC) ?_; refine AL.r qA ?_; refine AL.rm ?_; refine AL.r (lN jAC) ?_; refine AL.r qA ?_; refine AL.oq (AOpB.op (jHB 1 rfl jBC rfl rfl (n := 8 + b.length) (by simp [byA]) (by omega) (by omega) rfl ?_)); refine AL.n ?_; refine AL.ra ?_; refine AL.nil (AW.g ?_); (iterate 2 refine AL.rm ?_); refine AL.oq (jAz rfl jBC rfl rfl (jBQ rfl) (by simp [jAd] <;> omega) (by simp [jAd] <;> omega) ?_); refine AL.n ?_; refine AL.ra ?_; refine AL.nil (AW.g ?_); (iterate 2 refine AL.rm ?_); refine AL.oq (jAz rfl jBC rfl rfl (jBQ rfl) (by simp [jAd, jBc] <;> omega) (by simp [jAd, jBc] <;> omega) ?_); refine AL.n ?_; refine AL.ra ?_; refine AL.nil (AW.seq (AW.drawA (by kernel_rfl) ?_)); refine ADA.r 0 rfl (ARdP.a (jAr rfl rfl)) rfl ?_; refine ADA.r 3 rfl (ARdP.a (jAr rfl rfl)) rfl ?_; refine ADA.r 5 rfl (ARdP.a (jAr rfl rfl)) rfl ?_; refine ADA.b ?_; refine ADB.all (is := [1, 2]) (by kernel_rfl) (by simp) ?_
  intro i hi; simp only [List.mem_cons, List.not_mem_nil, or_false] at hi
  rcases hi with rfl | rfl
  ·refine ⟨_, rfl, rfl, AOpB.op (ARd.opB (jBq rfl jCU rfl rfl) ?_)⟩; refine ADB.n ?_; refine ADB.mv 2 rfl (AOpB.op (ARd.opB (jBq rfl jCU rfl rfl) ?_)); refine ADB.n ?_; refine ADB.mv 4 rfl (AOpB.op (jAb (of_c t ht (leB 4 b.length)) rfl (by kernel_rfl) rfl (none) ?_)); rintro r rfl; refine ADB.n ?_; refine ADB.mv 6 rfl (AOpB.op (jAb (on_c t ht (ofN t (leB 4 b.length)) (jHn _) b) rfl (by kernel_rfl) rfl (none) ?_)); rintro r rfl; refine ADB.n ?_; refine ADB.mv 7 rfl (AOpB.op (jAb (low_c (onN t (ofN t (leB 4 b.length)) b) (by unfold onN; omega)) rfl (by kernel_rfl) rfl (none) ?_)); rintro r rfl; refine ADB.n ?_; refine ADB.mv 8 rfl (jAz rfl jBC rfl rfl (jBQ rfl) (by simp [jAd, jBc] <;> omega) (by simp [jAd, jBc] <;> omega) ?_); refine ADB.n ?_; refine ADB.r 9 rfl (jAk rfl rfl) rfl ?_; refine ADB.done (by kernel_rfl) ?_; change AW _ _ _ _ _
   refine AW.g ?_; (iterate 2 refine AL.rm ?_); refine AL.oq (jAz rfl jBC rfl rfl (jBQ rfl) (by simp [jAd, jBc] <;> omega) (by simp [jAd, jBc] <;> omega) ?_); refine AL.n ?_; (iterate 2 refine AL.ra ?_); refine AL.nil (AW.ret (jKY rfl (ResV.tmp rfl) rfl (ResV.tmp rfl) ?_))
   (rw [jGT ht]; simp [jEB, jA9])
  refine ⟨_, rfl, rfl, AOpB.op (ARd.opB (jBq rfl jCU rfl rfl) ?_)⟩; refine ADB.n ?_; refine ADB.all (is := [1, 4]) (by kernel_rfl) (by simp) ?_; intro i hi; simp only [List.mem_cons, List.not_mem_nil, or_false] at hi
  rcases hi with rfl | rfl
  ·refine ⟨_, rfl, rfl, AOpB.op (ARd.opB (jBq rfl jCU rfl rfl) ?_)⟩; refine ADB.n ?_; refine ADB.mv 4 rfl (AOpB.op (jAb (of_c t ht (leB 4 b.length)) rfl (by kernel_rfl) rfl (none) ?_)); rintro r rfl; refine ADB.n ?_; refine ADB.mv 6 rfl (AOpB.op (jAb (on_c t ht (ofN t (leB 4 b.length)) (jHn _) b) rfl (by kernel_rfl) rfl (none) ?_)); rintro r rfl; refine ADB.n ?_; refine ADB.mv 7 rfl (AOpB.op (jAb (low_c (onN t (ofN t (leB 4 b.length)) b) (by unfold onN; omega)) rfl (by kernel_rfl) rfl (none) ?_)); rintro r rfl; refine ADB.n ?_; refine ADB.mv 8 rfl (jAz rfl jBC rfl rfl (jBQ rfl) (by simp [jAd, jBc] <;> omega) (by simp [jAd, jBc] <;> omega) ?_); refine ADB.n ?_; refine ADB.r 9 rfl (jAk rfl rfl) rfl ?_; refine ADB.done (by kernel_rfl) ?_; change AW _ _ _ _ _; refine AW.g ?_; (iterate 2 refine AL.rm ?_); refine AL.oq (jAz rfl jBC rfl rfl (jBQ rfl) (by simp [jAd, jBc] <;> omega) (by simp [jAd, jBc] <;> omega) ?_)
   refine AL.n ?_; (iterate 2 refine AL.ra ?_); refine AL.nil (AW.ret (jKY rfl (ResV.tmp rfl) rfl (ResV.tmp rfl) ?_))
   (rw [jGT ht]; simp [jEB, jA9])
  refine ⟨_, rfl, rfl, AOpB.op (jAb (of_c t ht (leB 4 b.length)) rfl (by kernel_rfl) rfl (none) ?_)⟩; rintro r rfl; refine ADB.n ?_; refine ADB.mv 1 rfl (AOpB.op (ARd.opB (jBq rfl jCU rfl rfl) ?_)); refine ADB.n ?_; refine ADB.mv 6 rfl (AOpB.op (jAb (on_c t ht (ofN t (leB 4 b.length)) (jHn _) b) rfl (by kernel_rfl) rfl (none) ?_)); rintro r rfl; refine ADB.n ?_; refine ADB.mv 7 rfl (AOpB.op (jAb (low_c (onN t (ofN t (leB 4 b.length)) b) (by unfold onN; omega)) rfl (by kernel_rfl) rfl (none) ?_)); rintro r rfl; refine ADB.n ?_; refine ADB.mv 8 rfl (jAz rfl jBC rfl rfl (jBQ rfl) (by simp [jAd, jBc] <;> omega) (by simp [jAd, jBc] <;> omega) ?_); refine ADB.n ?_; refine ADB.r 9 rfl (jAk rfl rfl) rfl ?_; refine ADB.done (by kernel_rfl) ?_; change AW _ _ _ _ _; refine AW.g ?_; (iterate 2 refine AL.rm ?_); refine AL.oq (jAz rfl jBC rfl rfl (jBQ rfl) (by simp [jAd, jBc] <;> omega) (by simp [jAd, jBc] <;> omega) ?_)
  refine AL.n ?_; (iterate 2 refine AL.ra ?_); refine AL.nil (AW.ret (jKY rfl (ResV.tmp rfl) rfl (ResV.tmp rfl) ?_))
  (rw [jGT ht]; simp [jEB, jA9])
set_option maxHeartbeats 2000000 in
theorem pack_4 (f : Int) (hf : i64R f) (hok : okF f = true) (fr fm : Int) (hv : V6D) (tg : List TagD) (ed : List EdgeD) (os : List OpD) (hw : (NoteD.mk 4 fr fm hv tg ed os).Wf) (hn : jBn ⟨4, fr, fm, hv, tg, ed, os⟩ = true) : AC Tryz.prog 13 [.sc (tabV t), .sc (.int .i64 f), (NoteD.mk 4 fr fm hv tg ed os).av] (fun r => r = .ot 5 1 (byA (jEB t (jHi f ⟨4, fr, fm, hv, tg, ed, os⟩))) [AI 0]) := by
  obtain ⟨l2, l3, l4, l5⟩ := n5_len f ⟨4, fr, fm, hv, tg, ed, os⟩
  have hln := jLm (f := f) hn
  have hq : jBn ⟨4, fr, fm, hv, tg, ed, os⟩ = true := hn
  change AC _ _ [.sc (tabV t), .sc (.int .i64 f), .ag [AI 4, AI fr, AI fm, AI hv.a, AI hv.b, AI hv.c, AI hv.d, AI hv.e, AI hv.f, .sl (tg.map TagD.cs), .sl (ed.map EdgeD.cs), .sl (os.map OpD.cs)]] _; refine AC.of' 77 4 Tryz.func13 rfl ?_; change AW _ _ _ _ [TK.mk 0 .off, TK.mk 0 .off, TK.mk 0 .off, TK.mk 0 .off]; refine AW.g (AL.oq (AOpB.op (jA7 0 rfl rfl rfl ?_))); refine AL.n ?_; refine AL.oq (AOpB.op (oB 1 ?_)); refine AL.n ?_; (iterate 2 refine AL.ra ?_); refine AL.nil (AW.seq (AW.g (AL.rm ?_))); refine AL.cl (jE9 f hok) ?_; refine AL.n ?_; refine AL.r qu ?_; refine AL.nil (AW.cond_f rfl (AW.skip (AW.seq (AW.g (AL.r (qN jAB) ?_))))); refine AL.cl (tright_t ⟨4, fr, fm, hv, tg, ed, os⟩ hn) ?_; refine AL.n ?_; refine AL.r qu ?_; refine AL.nil (AW.cond_f rfl (AW.skip (AW.g (AL.rm ?_)))); refine AL.r (jAu rfl iss_3 ik_5 rfl (fb_wrap hok)) ?_; refine AL.oq (AOpB.op (jCa rfl jBC ze_5 rfl rfl ?_)); refine AL.n ?_; refine AL.ra ?_; refine AL.nil (AW.g ?_); (iterate 2 refine AL.rm ?_); refine AL.r (qa jAo) ?_; refine AL.r (ql ag_3) ?_; refine AL.oq (AOpB.op (jAb (jKa [fb f] f (by simp) hf 4 hw.kind) rfl (by kernel_rfl) rfl (none) ?_))
  rintro r rfl; refine AL.n ?_; refine AL.ra ?_; refine AL.nil (AW.g ?_); (iterate 2 refine AL.rm ?_); refine AL.r (qa jBP) ?_; refine AL.r (ql ag_3) ?_; refine AL.cl (jKa (n2 f ⟨4, fr, fm, hv, tg, ed, os⟩) f (by omega) hf fr hw.from_) ?_; refine AL.n ?_; refine AL.ra ?_; refine AL.nil (AW.seq (AW.g (AL.r (qa jAo) ?_))); refine AL.r (ql ag_3) ?_; refine AL.nil (AW.block (AW.g (AL.r qb ?_))); refine AL.ra ?_; refine AL.nil (AW.cond_f rfl (AW.g (AL.r qb ?_))); refine AL.ra ?_; refine AL.nil (AW.cond_f rfl (AW.g (AL.r qb ?_))); refine AL.ra ?_; refine AL.nil (AW.cond_f rfl (AW.g (AL.r qb ?_))); refine AL.ra ?_; refine AL.nil (AW.cond_t rfl (AW.region ?_)); (iterate 2 refine AL.rm ?_); refine AL.r (qa jCf) ?_; refine AL.r (qN jDW) ?_; refine AL.cl (vput_c (n3 f ⟨4, fr, fm, hv, tg, ed, os⟩) f hv (by omega) hf hw.have_) ?_; refine AL.n ?_; refine AL.ra ?_
  refine AL.nil (AW.g (AL.r (jBq rfl jCU rfl rfl) ?_)); refine AL.rm ?_; refine AL.oq (AOpB.op (jAb (fput_o t ht (jHi f ⟨4, fr, fm, hv, tg, ed, os⟩) (by omega)) rfl (by kernel_rfl) rfl (some 3) ?_)); rintro r rfl; refine ⟨_, rfl, ?_⟩; refine AL.n ?_; refine AL.rm ?_; refine AL.r qe ?_; refine AL.r qe ?_; (iterate 2 refine AL.ra ?_); refine AL.nil (AW.seq (AW.g (AL.rm ?_))); refine AL.r qb ?_; refine AL.nil (AW.cd rfl (fun h77 => ?_) (fun h77 => ?_))
  ·first | exact absurd h77 (by decide) | exact absurd rfl h77 | (simp at h77)
  refine AW.skip (AW.g (AL.rm ?_)); (iterate 2 refine AL.ra ?_); refine AL.nil (AW.ret (jKY rfl (ResV.tmp rfl) rfl (ResV.tmp rfl) ?_)); rfl
end
end Go.Proofs.YtlapcfnmmpbeeaaGreat
