/- A part of a proof. -/
import Derived.Test.YtlapcfnmmpbeeaaPT37
import Derived.Test.YtlapcfnmmpbeeaaPT40
import Derived.Test.YtlapcfnmmpbeeaaPT42
set_option linter.unusedSimpArgs false
set_option linter.unusedVariables false
namespace Go.Proofs.Ytlapcfnmmpbeeaa
set_option maxRecDepth 100000
set_option maxRecDepth 100000
open Go.RowKit
structure NoteD.Wf (n : NoteD) : Prop where
  kind : i64R n.kind
  from_ : i64R n.from_
  fmt : i64R n.fmt
  have_ : n.have_.Wf
  tags : ∀ t ∈ n.tags, i64R t.rep ∧ i64R t.n
  edges : ∀ e ∈ n.edges, e.Wf
  ops : ∀ o ∈ n.ops, o.Wf
theorem rightF_light {x : FldD} (h : rightF x = true) : x.Light := by
  obtain ⟨⟨a, b⟩, c, d, e, _⟩ := rightF_read h
  exact ⟨by omega, by omega, by omega, by omega, fun c hc => by have := e c hc; omega⟩
theorem rightL_light {x : LensD} (h : rightL x = true) : x.Light := by
  obtain ⟨⟨a, b⟩, c, d, ⟨e1, e2⟩, ⟨g1, g2⟩, k⟩ := rightL_read h
  refine ⟨by omega, by omega, by omega, by omega, ?_, ⟨by omega, fun p hp => by have := e2 p hp; omega⟩, ⟨by omega, fun p hp => by have := g2 p hp; omega⟩⟩
  by_cases ha : addsB x.kind = true
  · rw [if_pos ha] at k; exact rightF_light k
  rw [if_neg ha] at k; rw [k]; exact ⟨by simp [zeroF], by simp [zeroF], by simp [zeroF], by simp [zeroF], by simp [zeroF]⟩
theorem rightO_light {o : OpD} (h : rightO o = true) : o.Light := by
  obtain ⟨a, b, ⟨c, d⟩, e, g⟩ := right_read h
  exact ⟨by omega, by omega, by omega, by omega, by omega, by omega⟩
def fb (f : Int) : UInt8 := if f = 1 then 1 else 2
theorem fb_wrap {f : Int} (h : okF f = true) : IntKind.u8.wrap f = (((fb f).toNat : Nat) : Int) := by
  rcases okF_iff.1 h with rfl | rfl <;> decide
def n2 (f : Int) (n : NoteD) : List UInt8 := [fb f] ++ putN f n.kind
def n3 (f : Int) (n : NoteD) : List UInt8 := n2 f n ++ putN f n.from_
def n4 (f : Int) (n : NoteD) : List UInt8 := n3 f n ++ putN f n.fmt
def n5 (f : Int) (n : NoteD) : List UInt8 := n4 f n ++ vecP f n.have_
def bytesN (f : Int) (n : NoteD) : List UInt8 :=
  if n.kind = 1 then lstP (tagP f) (n5 f n) f n.tags n.tags.length
  else if n.kind = 2 then lstP (putE f) (n3 f n) f n.edges n.edges.length
  else if n.kind = 3 then lstP (putO f) (n3 f n) f n.ops n.ops.length
  else n3 f n ++ vecP f n.have_
theorem n5_len (f : Int) (n : NoteD) : (n2 f n).length ≤ 200 ∧ (n3 f n).length ≤ 200 ∧ (n4 f n).length ≤ 200 ∧ (n5 f n).length ≤ 200 := by
  have := putN_len f n.kind; have := putN_len f n.from_; have := putN_len f n.fmt; have := vecP_len f n.have_
  unfold n5 n4 n3 n2
  simp only [List.length_append, List.length_cons, List.length_nil]; omega
theorem pairs_len2 {f : Int} : ∀ {l : List PairD}, (∀ p ∈ l, p.from_.length ≤ 12 ∧ p.tQ.length ≤ 12) → (l.flatMap (pairP f)).length ≤ 44 * l.length
  | [], _ => by simp
  | p :: l, h => by
    have h1 := h p (by simp)
    have := textP_len f p.from_; have := textP_len f p.tQ; have := pairs_len2 (f := f) (l := l) (fun q hq => h q (by simp [hq]))
    simp only [List.flatMap_cons, List.length_append, List.length_cons, pairP]; omega
theorem texts_len {f : Int} : ∀ {l : List Bytes}, (∀ c ∈ l, c.length ≤ 12) → (l.flatMap (textP f)).length ≤ 22 * l.length
  | [], _ => by simp
  | p :: l, h => by
    have h1 := h p (by simp)
    have := textP_len f p; have := texts_len (f := f) (l := l) (fun q hq => h q (by simp [hq]))
    simp only [List.flatMap_cons, List.length_append, List.length_cons]; omega
theorem putF_len2 {f : Int} {x : FldD} (h : rightF x = true) : (putF f x).length ≤ 1000 := by
  obtain ⟨⟨a, b⟩, c, d, e, _⟩ := rightF_read h
  have a1 := refP_len f x.at_; have a2 := putN_len f x.kind; have a3 := textP_len f x.dflt; have a4 := putN_len f (x.cases.length : Nat); have a5 := putN_len f x.worth
  have a6 := texts_len (f := f) e
  unfold putF pf5 pf4 pf3 pf2 pf1
  simp only [List.length_append, List.take_length]
  omega
theorem putX_len2 {f : Int} {x : LensD} (h : rightL x = true) : (putX f x).length ≤ 3000 := by
  obtain ⟨⟨a, b⟩, c, d, ⟨e1, e2⟩, ⟨g1, g2⟩, k⟩ := rightL_read h
  have a1 := putN_len f x.kind; have a2 := refP_len f x.at_; have a3 := textP_len f x.name; have a4 := textP_len f x.other; have a5 := putN_len f x.factor
  have a6 := putN_len f (x.forth.length : Nat); have a7 := putN_len f (x.back.length : Nat)
  have b1 := pairs_len2 (f := f) e2; have b2 := pairs_len2 (f := f) g2
  have b3 : (if addsB x.kind then putF f x.field else []).length ≤ 1000 := by
    split
    · rename_i ha
      rw [if_pos ha] at k
      exact putF_len2 k
    simp
  unfold putX px7 px6 px5 px4 px3 px2 px1 putPr
  simp only [List.length_append, List.take_length]
  omega
theorem tags_len {f : Int} : ∀ {l : List TagD}, (l.flatMap (tagP f)).length ≤ 20 * l.length
  | [] => by simp
  | p :: l => by
    have := tagP_len f p; have := tags_len (f := f) (l := l)
    simp only [List.flatMap_cons, List.length_append, List.length_cons]; omega
theorem putO_len3 {f : Int} {o : OpD} (h : rightO o = true) : (putO f o).length ≤ 3000 := by
  obtain ⟨a, b, ⟨c, d⟩, e, g⟩ := right_read h
  have a1 := tagP_len f o.id; have a2 := tagP_len f o.schema; have a3 := putN_len f o.time; have a4 := textP_len f o.cart; have a5 := putN_len f o.kind; have a6 := textP_len f o.item; have a7 := refP_len f o.at_; have a8 := putN_len f o.delta; have a9 := textP_len f o.text; have a10 := putN_len f (o.drops.length : Nat); have a11 := tags_len (f := f) (l := o.drops)
  have a12 : (flagB o.has).length = 1 := rfl
  unfold putO po12 po11 po10 po9 po8 po7 po6 po5 po4 po3 po2 po1
  simp only [List.length_append, List.take_length]
  omega
theorem noteB_1 {n : NoteD} (h : noteB n = true) (hk : n.kind = 1) : (n.fmt = 1 ∨ n.fmt = 2) ∧ vecB n.have_ = true ∧ risT n.tags = true ∧ n.edges = [] ∧ n.ops = [] := by
  unfold noteB at h
  rw [if_pos hk] at h
  simp only [Bool.and_eq_true, Bool.or_eq_true, beq_iff_eq, decide_eq_true_eq] at h
  obtain ⟨_, ⟨⟨⟨h1, h2⟩, h3⟩, h4⟩, h5⟩ := h
  exact ⟨h1, h2, h3, List.eq_nil_of_length_eq_zero h4, List.eq_nil_of_length_eq_zero h5⟩
theorem noteB_o {n : NoteD} (h : noteB n = true) (hk : ¬ n.kind = 1) : n.fmt = 0 ∧ n.tags = [] ∧ (n.kind = 4 ∧ vecB n.have_ = true ∧ n.edges = [] ∧ n.ops = [] ∨ n.have_ = z6 ∧ (n.kind = 2 ∧ chB edgeB n.edges = true ∧ n.ops = [] ∨ n.kind = 3 ∧ chB rightO n.ops = true ∧ n.edges = [])) := by
  unfold noteB at h
  rw [if_neg hk] at h
  simp only [Bool.and_eq_true, decide_eq_true_eq] at h
  obtain ⟨_, ⟨h1, h2⟩, h3⟩ := h
  refine ⟨h1, List.eq_nil_of_length_eq_zero h2, ?_⟩
  split at h3
  · rename_i hk4
    simp only [Bool.and_eq_true, decide_eq_true_eq] at h3
    exact .inl ⟨hk4, h3.1.1, List.eq_nil_of_length_eq_zero h3.1.2, List.eq_nil_of_length_eq_zero h3.2⟩
  simp only [Bool.and_eq_true, decide_eq_true_eq] at h3
  refine .inr ⟨h3.1, ?_⟩; obtain ⟨_, h3⟩ := h3
  split at h3
  · rename_i hk2
    simp only [Bool.and_eq_true, decide_eq_true_eq] at h3
    exact .inl ⟨hk2, h3.1, List.eq_nil_of_length_eq_zero h3.2⟩
  split at h3
  · rename_i hk3
    simp only [Bool.and_eq_true, decide_eq_true_eq] at h3
    exact .inr ⟨hk3, h3.1, List.eq_nil_of_length_eq_zero h3.2⟩
  cases h3
theorem chB_read {α : Type} {p : α → Bool} {l : List α} (h : chB p l = true) : l.length ≤ 6 ∧ ∀ x ∈ l, p x = true := by
  unfold chB at h
  simp only [Bool.and_eq_true, decide_eq_true_eq, List.all_eq_true] at h
  exact ⟨h.1.2, h.2⟩
theorem risT_read {l : List TagD} (h : risT l = true) : l.length ≤ 40 := by
  unfold risT at h
  simp only [Bool.and_eq_true, decide_eq_true_eq] at h
  exact h.1
theorem bytesN_len {f : Int} {n : NoteD} (h : noteB n = true) : (bytesN f n).length ≤ 30000 := by
  obtain ⟨l2, l3, l4, l5⟩ := n5_len f n
  unfold bytesN
  by_cases h1 : n.kind = 1
  · rw [if_pos h1]
    have ht := risT_read (noteB_1 h h1).2.2.1
    have := lstP_len (p := tagP f) (b := n5 f n) (f := f) (fun x (_ : x ∈ n.tags) => tagP_len f x) n.tags.length (Nat.le_refl _)
    omega
  rw [if_neg h1]
  obtain ⟨_, _, h2⟩ := noteB_o h h1
  rcases h2 with ⟨k, _⟩ | ⟨_, ⟨k, hc, _⟩ | ⟨k, hc, _⟩⟩
  · rw [if_neg (by omega), if_neg (by omega), List.length_append]
    have := vecP_len f n.have_
    omega
  · rw [if_pos k]
    obtain ⟨c1, c2⟩ := chB_read hc
    have hm : ∀ x ∈ n.edges, (putE f x).length ≤ 3100 := fun x hx => by
      have a := putX_len2 (f := f) (edge_lens (c2 x hx)); have b := tagP_len f x.id; have c := tagP_len f x.par
      unfold putE
      simp only [List.length_append]; omega
    have := lstP_len (p := putE f) (b := n3 f n) (f := f) hm n.edges.length (Nat.le_refl _)
    omega
  rw [if_neg (by omega), if_pos k]
  obtain ⟨c1, c2⟩ := chB_read hc
  have := lstP_len (p := putO f) (b := n3 f n) (f := f) (fun x hx => putO_len3 (f := f) (c2 x hx)) n.ops.length (Nat.le_refl _)
  omega
theorem cright_t (f : Int) (h : okF f = true) : AC Try.prog 12 [.sc (.int .i64 f)] (fun r => r = .s (AB true)) := (cright_c f).mono fun r hr => by rw [hr]; refine sb ?_; rcases okF_iff.1 h with rfl | rfl <;> rfl
theorem cright_f (f : Int) (h : okF f = false) : AC Try.prog 12 [.sc (.int .i64 f)] (fun r => r = .s (AB false)) := (cright_c f).mono fun r hr => by
  rw [hr]; refine sb ?_
  unfold okF at h
  simpa using h
theorem tright_t (n : NoteD) (h : noteB n = true) : AC Try.prog 13 [n.av] (fun r => r = .s (AB true)) := (tright_c n).mono fun r hr => by rw [hr, h]
theorem tright_f (n : NoteD) (h : noteB n = false) : AC Try.prog 13 [n.av] (fun r => r = .s (AB false)) := (tright_c n).mono fun r hr => by rw [hr, h]
theorem res2ot {P : Program} {fn : Func} {R : RS → Prop} {t : List AV} {st : List TK} {r1 r2 : ResultVar} {k g : Nat} {el : TypeId} {sz : Nat} {xs : List (List AV)} {v2 : Value} (hr : fn.results = #[r1, r2]) (h1 : ResV P t st r1 (.ow k g)) (hk : st[k]? = some ⟨g, .own el sz xs⟩) (h2 : ResV P t st r2 (.sc v2)) (h : R (.ot el sz xs [.sc v2])) : ResA P fn R t st := fun F ρ w0 w a h0 hs hm => by
  obtain ⟨u1, g1, q1⟩ := h1.run hs hm
  obtain ⟨u2, g2, q2⟩ := h2.run hs hm
  refine ⟨.tuple #[u1, u2], .ot el sz xs [.sc v2], ?_, ⟨_, _, #[u2], by rw [q1.ow_inv hk]; rfl, hs.repOb h0 hk, rfl, fun j v x hv hx => ?_⟩, h⟩
  · rw [res_eq, hr]
    simp [Sem.run_bind, g1, g2]
  match j with
  | 0 => simp at hv hx; subst hv hx; rw [q2.of_sc]; exact .sc _
  | j + 1 => simp at hx
section
variable (t : Nat → Nat) (ht : ∀ i, i < 256 → t i < 4294967296)
include ht
theorem fput_o (b : List UInt8) (hb : b.length ≤ 60000) : AC Try.prog 22 [.sl (byA []), .sc (tabV t), .sl (byA b)] (fun r => r = .ot 5 1 (byA (frameN t b)) [AI 0]) := by
  refine AC.of' 39 6 Try.func22 rfl ?_; change AW _ _ _ _ [TK.mk 0 .off, TK.mk 0 .off, TK.mk 0 .off, TK.mk 0 .off, TK.mk 0 .off, TK.mk 0 .off]; refine AW.g (AL.oq (AOpB.op (op_tabbox 0 rfl rfl rfl ?_))); refine AL.n ?_; (iterate 2 refine AL.ra ?_); refine AL.nil (AW.seq (AW.g (AL.rm ?_))); refine AL.r (lN el_35) ?_; refine AL.r qb ?_; refine AL.nil (AW.cd rfl (fun h12 => ?_) (fun h12 => ?_))
  ·(exfalso; omega)
  refine AW.skip (AW.g (AL.rm ?_)); refine AL.r (lN el_35) ?_; refine AL.r (rd_conv_int rfl iss_3 ik_29 rfl (show IntKind.u32.wrap (b.length : Int) = ((b.length : Nat) : Int) from wrap_u32 _ (by omega))) ?_; refine AL.cl (low_c b.length (by omega)) ?_; refine AL.n ?_; refine AL.ra ?_; refine AL.nil (AW.g (AL.rm ?_)); refine AL.r (lN el_35) ?_; refine AL.r qA ?_; refine AL.rm ?_; refine AL.r (lN el_35) ?_; refine AL.r qA ?_; refine AL.oq (AOpB.op (op_make0 1 rfl ap_35 rfl rfl (n := 8 + b.length) (by simp [byA]) (by omega) (by omega) rfl ?_)); refine AL.n ?_; refine AL.ra ?_; refine AL.nil (AW.g ?_); (iterate 2 refine AL.rm ?_); refine AL.oq (op_append rfl ap_35 rfl rfl (src_s rfl) (by simp [byA_len] <;> omega) (by simp [byA_len] <;> omega) ?_); refine AL.n ?_; refine AL.ra ?_; refine AL.nil (AW.g ?_); (iterate 2 refine AL.rm ?_); refine AL.oq (op_append rfl ap_35 rfl rfl (src_s rfl) (by simp [byA_len, leB_len] <;> omega) (by simp [byA_len, leB_len] <;> omega) ?_); refine AL.n ?_; refine AL.ra ?_; refine AL.nil (AW.seq (AW.drawA (by kernel_rfl) ?_)); refine ADA.r 0 rfl (ARdP.a (rdP_move rfl rfl)) rfl ?_; refine ADA.r 3 rfl (ARdP.a (rdP_move rfl rfl)) rfl ?_; refine ADA.r 5 rfl (ARdP.a (rdP_move rfl rfl)) rfl ?_; refine ADA.b ?_; refine ADB.all (is := [1, 2]) (by kernel_rfl) (by simp) ?_
  intro i hi; simp only [List.mem_cons, List.not_mem_nil, or_false] at hi
  rcases hi with rfl | rfl
  ·refine ⟨_, rfl, rfl, AOpB.op (ARd.opB (rd_tab0 rfl ag_33 rfl rfl) ?_)⟩; refine ADB.n ?_; refine ADB.mv 2 rfl (AOpB.op (ARd.opB (rd_tab0 rfl ag_33 rfl rfl) ?_)); refine ADB.n ?_; refine ADB.mv 4 rfl (AOpB.op (op_call (of_c t ht (leB 4 b.length)) rfl (by kernel_rfl) rfl (none) ?_)); rintro r rfl; refine ADB.n ?_; refine ADB.mv 6 rfl (AOpB.op (op_call (on_c t ht (ofN t (leB 4 b.length)) (ofN_lt _) b) rfl (by kernel_rfl) rfl (none) ?_)); rintro r rfl; refine ADB.n ?_; refine ADB.mv 7 rfl (AOpB.op (op_call (low_c (onN t (ofN t (leB 4 b.length)) b) (by unfold onN; omega)) rfl (by kernel_rfl) rfl (none) ?_)); rintro r rfl; refine ADB.n ?_; refine ADB.mv 8 rfl (op_append rfl ap_35 rfl rfl (src_s rfl) (by simp [byA_len, leB_len] <;> omega) (by simp [byA_len, leB_len] <;> omega) ?_); refine ADB.n ?_; refine ADB.r 9 rfl (rdP_assign rfl rfl) rfl ?_; refine ADB.done (by kernel_rfl) ?_; change AW _ _ _ _ _
   refine AW.g ?_; (iterate 2 refine AL.rm ?_); refine AL.oq (op_append rfl ap_35 rfl rfl (src_s rfl) (by simp [byA_len, leB_len] <;> omega) (by simp [byA_len, leB_len] <;> omega) ?_); refine AL.n ?_; (iterate 2 refine AL.ra ?_); refine AL.nil (AW.ret (res2ot rfl (ResV.tmp rfl) rfl (ResV.tmp rfl) ?_))
   (rw [onN_ofN ht]; simp [frameN, byA_app])
  refine ⟨_, rfl, rfl, AOpB.op (ARd.opB (rd_tab0 rfl ag_33 rfl rfl) ?_)⟩; refine ADB.n ?_; refine ADB.all (is := [1, 4]) (by kernel_rfl) (by simp) ?_; intro i hi; simp only [List.mem_cons, List.not_mem_nil, or_false] at hi
  rcases hi with rfl | rfl
  ·refine ⟨_, rfl, rfl, AOpB.op (ARd.opB (rd_tab0 rfl ag_33 rfl rfl) ?_)⟩; refine ADB.n ?_; refine ADB.mv 4 rfl (AOpB.op (op_call (of_c t ht (leB 4 b.length)) rfl (by kernel_rfl) rfl (none) ?_)); rintro r rfl; refine ADB.n ?_; refine ADB.mv 6 rfl (AOpB.op (op_call (on_c t ht (ofN t (leB 4 b.length)) (ofN_lt _) b) rfl (by kernel_rfl) rfl (none) ?_)); rintro r rfl; refine ADB.n ?_; refine ADB.mv 7 rfl (AOpB.op (op_call (low_c (onN t (ofN t (leB 4 b.length)) b) (by unfold onN; omega)) rfl (by kernel_rfl) rfl (none) ?_)); rintro r rfl; refine ADB.n ?_; refine ADB.mv 8 rfl (op_append rfl ap_35 rfl rfl (src_s rfl) (by simp [byA_len, leB_len] <;> omega) (by simp [byA_len, leB_len] <;> omega) ?_); refine ADB.n ?_; refine ADB.r 9 rfl (rdP_assign rfl rfl) rfl ?_; refine ADB.done (by kernel_rfl) ?_; change AW _ _ _ _ _; refine AW.g ?_; (iterate 2 refine AL.rm ?_); refine AL.oq (op_append rfl ap_35 rfl rfl (src_s rfl) (by simp [byA_len, leB_len] <;> omega) (by simp [byA_len, leB_len] <;> omega) ?_)
   refine AL.n ?_; (iterate 2 refine AL.ra ?_); refine AL.nil (AW.ret (res2ot rfl (ResV.tmp rfl) rfl (ResV.tmp rfl) ?_))
   (rw [onN_ofN ht]; simp [frameN, byA_app])
  refine ⟨_, rfl, rfl, AOpB.op (op_call (of_c t ht (leB 4 b.length)) rfl (by kernel_rfl) rfl (none) ?_)⟩; rintro r rfl; refine ADB.n ?_; refine ADB.mv 1 rfl (AOpB.op (ARd.opB (rd_tab0 rfl ag_33 rfl rfl) ?_)); refine ADB.n ?_; refine ADB.mv 6 rfl (AOpB.op (op_call (on_c t ht (ofN t (leB 4 b.length)) (ofN_lt _) b) rfl (by kernel_rfl) rfl (none) ?_)); rintro r rfl; refine ADB.n ?_; refine ADB.mv 7 rfl (AOpB.op (op_call (low_c (onN t (ofN t (leB 4 b.length)) b) (by unfold onN; omega)) rfl (by kernel_rfl) rfl (none) ?_)); rintro r rfl; refine ADB.n ?_; refine ADB.mv 8 rfl (op_append rfl ap_35 rfl rfl (src_s rfl) (by simp [byA_len, leB_len] <;> omega) (by simp [byA_len, leB_len] <;> omega) ?_); refine ADB.n ?_; refine ADB.r 9 rfl (rdP_assign rfl rfl) rfl ?_; refine ADB.done (by kernel_rfl) ?_; change AW _ _ _ _ _; refine AW.g ?_; (iterate 2 refine AL.rm ?_); refine AL.oq (op_append rfl ap_35 rfl rfl (src_s rfl) (by simp [byA_len, leB_len] <;> omega) (by simp [byA_len, leB_len] <;> omega) ?_)
  refine AL.n ?_; (iterate 2 refine AL.ra ?_); refine AL.nil (AW.ret (res2ot rfl (ResV.tmp rfl) rfl (ResV.tmp rfl) ?_))
  (rw [onN_ofN ht]; simp [frameN, byA_app])
set_option maxHeartbeats 2000000 in
theorem pack_1 (f : Int) (hf : i64R f) (hok : okF f = true) (fr fm : Int) (hv : V6D) (tg : List TagD) (ed : List EdgeD) (os : List OpD) (hw : (NoteD.mk 1 fr fm hv tg ed os).Wf) (hn : noteB ⟨1, fr, fm, hv, tg, ed, os⟩ = true) : AC Try.prog 7 [.sc (tabV t), .sc (.int .i64 f), (NoteD.mk 1 fr fm hv tg ed os).av] (fun r => r = .ot 5 1 (byA (frameN t (bytesN f ⟨1, fr, fm, hv, tg, ed, os⟩))) [AI 0]) := by
  obtain ⟨l2, l3, l4, l5⟩ := n5_len f ⟨1, fr, fm, hv, tg, ed, os⟩
  have hln := bytesN_len (f := f) hn
  have hq : noteB ⟨1, fr, fm, hv, tg, ed, os⟩ = true := hn
  change AC _ _ [.sc (tabV t), .sc (.int .i64 f), .ag [AI 1, AI fr, AI fm, AI hv.a, AI hv.b, AI hv.c, AI hv.d, AI hv.e, AI hv.f, .sl (tg.map TagD.cs), .sl (ed.map EdgeD.cs), .sl (os.map OpD.cs)]] _; refine AC.of' 77 4 Try.func7 rfl ?_; change AW _ _ _ _ [TK.mk 0 .off, TK.mk 0 .off, TK.mk 0 .off, TK.mk 0 .off]; refine AW.g (AL.oq (AOpB.op (op_tabbox 0 rfl rfl rfl ?_))); refine AL.n ?_; refine AL.oq (AOpB.op (oB 1 ?_)); refine AL.n ?_; (iterate 2 refine AL.ra ?_); refine AL.nil (AW.seq (AW.g (AL.rm ?_))); refine AL.cl (cright_t f hok) ?_; refine AL.n ?_; refine AL.r qu ?_; refine AL.nil (AW.cond_f rfl (AW.skip (AW.seq (AW.g (AL.r (qN ag_28) ?_))))); refine AL.cl (tright_t ⟨1, fr, fm, hv, tg, ed, os⟩ hn) ?_; refine AL.n ?_; refine AL.r qu ?_; refine AL.nil (AW.cond_f rfl (AW.skip (AW.g (AL.rm ?_)))); refine AL.r (rd_conv_int rfl iss_3 ik_5 rfl (fb_wrap hok)) ?_; refine AL.oq (AOpB.op (bs_set rfl ap_35 ze_5 rfl rfl ?_)); refine AL.n ?_; refine AL.ra ?_; refine AL.nil (AW.g ?_); (iterate 2 refine AL.rm ?_); refine AL.r (qa fo_28_0) ?_; refine AL.r (ql ag_3) ?_; refine AL.oq (AOpB.op (op_call (pnum_c [fb f] f (by simp) hf 1 hw.kind) rfl (by kernel_rfl) rfl (none) ?_))
  rintro r rfl; refine AL.n ?_; refine AL.ra ?_; refine AL.nil (AW.g ?_); (iterate 2 refine AL.rm ?_); refine AL.r (qa fo_28_1) ?_; refine AL.r (ql ag_3) ?_; refine AL.cl (pnum_c (n2 f ⟨1, fr, fm, hv, tg, ed, os⟩) f (by omega) hf fr hw.from_) ?_; refine AL.n ?_; refine AL.ra ?_; refine AL.nil (AW.seq (AW.g (AL.r (qa fo_28_0) ?_))); refine AL.r (ql ag_3) ?_; refine AL.nil (AW.block (AW.g (AL.r qb ?_))); refine AL.ra ?_; refine AL.nil (AW.cond_t rfl (AW.g ?_)); (iterate 2 refine AL.rm ?_); refine AL.r (qa fo_28_2) ?_; refine AL.r (ql ag_3) ?_; refine AL.cl (pnum_c (n3 f ⟨1, fr, fm, hv, tg, ed, os⟩) f (by omega) hf fm hw.fmt) ?_; refine AL.n ?_; refine AL.ra ?_; refine AL.nil (AW.g ?_); (iterate 2 refine AL.rm ?_); refine AL.r (qa fo_28_3) ?_; refine AL.r (qN ag_23) ?_; refine AL.cl (vput_c (n4 f ⟨1, fr, fm, hv, tg, ed, os⟩) f hv (by omega) hf hw.have_) ?_; refine AL.n ?_; refine AL.ra ?_; refine AL.nil (AW.region ?_); (iterate 2 refine AL.rm ?_)
  refine AL.r (qa fo_28_4) ?_; refine AL.r (ql ag_24) ?_; refine AL.cl (tput_t (n5 f ⟨1, fr, fm, hv, tg, ed, os⟩) f (by omega) hf tg (by have := risT_read (noteB_1 hn rfl).2.2.1; show tg.length ≤ 100; have h9 : tg.length ≤ 40 := this; omega) hw.tags) ?_; refine AL.n ?_; refine AL.ra ?_; refine AL.nil (AW.g (AL.r (rd_tab0 rfl ag_33 rfl rfl) ?_)); refine AL.rm ?_; refine AL.oq (AOpB.op (op_call (fput_o t ht (bytesN f ⟨1, fr, fm, hv, tg, ed, os⟩) (by omega)) rfl (by kernel_rfl) rfl (some 3) ?_)); rintro r rfl; refine ⟨_, rfl, ?_⟩; refine AL.n ?_; refine AL.rm ?_; refine AL.r qe ?_; refine AL.r qe ?_; (iterate 2 refine AL.ra ?_); refine AL.nil (AW.seq (AW.g (AL.rm ?_))); refine AL.r qb ?_; refine AL.nil (AW.cd rfl (fun h77 => ?_) (fun h77 => ?_))
  ·first | exact absurd h77 (by decide) | exact absurd rfl h77 | (simp at h77)
  refine AW.skip (AW.g (AL.rm ?_)); (iterate 2 refine AL.ra ?_); refine AL.nil (AW.ret (res2ot rfl (ResV.tmp rfl) rfl (ResV.tmp rfl) ?_)); rfl
set_option maxHeartbeats 2000000 in
theorem pack_2 (f : Int) (hf : i64R f) (hok : okF f = true) (fr fm : Int) (hv : V6D) (tg : List TagD) (ed : List EdgeD) (os : List OpD) (hw : (NoteD.mk 2 fr fm hv tg ed os).Wf) (hn : noteB ⟨2, fr, fm, hv, tg, ed, os⟩ = true) : AC Try.prog 7 [.sc (tabV t), .sc (.int .i64 f), (NoteD.mk 2 fr fm hv tg ed os).av] (fun r => r = .ot 5 1 (byA (frameN t (bytesN f ⟨2, fr, fm, hv, tg, ed, os⟩))) [AI 0]) := by
  obtain ⟨l2, l3, l4, l5⟩ := n5_len f ⟨2, fr, fm, hv, tg, ed, os⟩
  have hln := bytesN_len (f := f) hn
  have hq : noteB ⟨2, fr, fm, hv, tg, ed, os⟩ = true := hn
  have hed : ed.length ≤ 6 ∧ ∀ e ∈ ed, edgeB e = true := by
    obtain ⟨_, _, h2⟩ := noteB_o hn (show ¬ (2 : Int) = 1 by decide)
    rcases h2 with ⟨k, _⟩ | ⟨_, ⟨k, hc, _⟩ | ⟨k, hc, _⟩⟩
    · exact absurd (show (2 : Int) = 4 from k) (by decide)
    · exact chB_read hc
    exact absurd (show (2 : Int) = 3 from k) (by decide)
  change AC _ _ [.sc (tabV t), .sc (.int .i64 f), .ag [AI 2, AI fr, AI fm, AI hv.a, AI hv.b, AI hv.c, AI hv.d, AI hv.e, AI hv.f, .sl (tg.map TagD.cs), .sl (ed.map EdgeD.cs), .sl (os.map OpD.cs)]] _; refine AC.of' 77 4 Try.func7 rfl ?_; change AW _ _ _ _ [TK.mk 0 .off, TK.mk 0 .off, TK.mk 0 .off, TK.mk 0 .off]; refine AW.g (AL.oq (AOpB.op (op_tabbox 0 rfl rfl rfl ?_))); refine AL.n ?_; refine AL.oq (AOpB.op (oB 1 ?_)); refine AL.n ?_; (iterate 2 refine AL.ra ?_); refine AL.nil (AW.seq (AW.g (AL.rm ?_))); refine AL.cl (cright_t f hok) ?_; refine AL.n ?_; refine AL.r qu ?_; refine AL.nil (AW.cond_f rfl (AW.skip (AW.seq (AW.g (AL.r (qN ag_28) ?_))))); refine AL.cl (tright_t ⟨2, fr, fm, hv, tg, ed, os⟩ hn) ?_; refine AL.n ?_; refine AL.r qu ?_; refine AL.nil (AW.cond_f rfl (AW.skip (AW.g (AL.rm ?_)))); refine AL.r (rd_conv_int rfl iss_3 ik_5 rfl (fb_wrap hok)) ?_; refine AL.oq (AOpB.op (bs_set rfl ap_35 ze_5 rfl rfl ?_)); refine AL.n ?_; refine AL.ra ?_; refine AL.nil (AW.g ?_); (iterate 2 refine AL.rm ?_); refine AL.r (qa fo_28_0) ?_; refine AL.r (ql ag_3) ?_; refine AL.oq (AOpB.op (op_call (pnum_c [fb f] f (by simp) hf 2 hw.kind) rfl (by kernel_rfl) rfl (none) ?_))
  rintro r rfl; refine AL.n ?_; refine AL.ra ?_; refine AL.nil (AW.g ?_); (iterate 2 refine AL.rm ?_); refine AL.r (qa fo_28_1) ?_; refine AL.r (ql ag_3) ?_; refine AL.cl (pnum_c (n2 f ⟨2, fr, fm, hv, tg, ed, os⟩) f (by omega) hf fr hw.from_) ?_; refine AL.n ?_; refine AL.ra ?_; refine AL.nil (AW.seq (AW.g (AL.r (qa fo_28_0) ?_))); refine AL.r (ql ag_3) ?_; refine AL.nil (AW.block (AW.g (AL.r qb ?_))); refine AL.ra ?_; refine AL.nil (AW.cond_f rfl (AW.g (AL.r qb ?_))); refine AL.ra ?_; refine AL.nil (AW.cond_t rfl (AW.region ?_)); (iterate 2 refine AL.rm ?_); refine AL.r (qa fo_28_5) ?_; refine AL.r (ql ag_25) ?_; refine AL.cl (tput_e (n3 f ⟨2, fr, fm, hv, tg, ed, os⟩) f (by omega) hf hok ed hed.1 hw.edges (fun e he => rightL_light (edge_lens (hed.2 e he)))) ?_; refine AL.n ?_; refine AL.ra ?_; refine AL.nil (AW.g (AL.r (rd_tab0 rfl ag_33 rfl rfl) ?_)); refine AL.rm ?_; refine AL.oq (AOpB.op (op_call (fput_o t ht (bytesN f ⟨2, fr, fm, hv, tg, ed, os⟩) (by omega)) rfl (by kernel_rfl) rfl (some 3) ?_)); rintro r rfl; refine ⟨_, rfl, ?_⟩
  refine AL.n ?_; refine AL.rm ?_; refine AL.r qe ?_; refine AL.r qe ?_; (iterate 2 refine AL.ra ?_); refine AL.nil (AW.seq (AW.g (AL.rm ?_))); refine AL.r qb ?_; refine AL.nil (AW.cd rfl (fun h77 => ?_) (fun h77 => ?_))
  ·first | exact absurd h77 (by decide) | exact absurd rfl h77 | (simp at h77)
  refine AW.skip (AW.g (AL.rm ?_)); (iterate 2 refine AL.ra ?_); refine AL.nil (AW.ret (res2ot rfl (ResV.tmp rfl) rfl (ResV.tmp rfl) ?_)); rfl
set_option maxHeartbeats 2000000 in
theorem pack_3 (f : Int) (hf : i64R f) (hok : okF f = true) (fr fm : Int) (hv : V6D) (tg : List TagD) (ed : List EdgeD) (os : List OpD) (hw : (NoteD.mk 3 fr fm hv tg ed os).Wf) (hn : noteB ⟨3, fr, fm, hv, tg, ed, os⟩ = true) : AC Try.prog 7 [.sc (tabV t), .sc (.int .i64 f), (NoteD.mk 3 fr fm hv tg ed os).av] (fun r => r = .ot 5 1 (byA (frameN t (bytesN f ⟨3, fr, fm, hv, tg, ed, os⟩))) [AI 0]) := by
  obtain ⟨l2, l3, l4, l5⟩ := n5_len f ⟨3, fr, fm, hv, tg, ed, os⟩
  have hln := bytesN_len (f := f) hn
  have hq : noteB ⟨3, fr, fm, hv, tg, ed, os⟩ = true := hn
  have hos : os.length ≤ 6 ∧ ∀ o ∈ os, rightO o = true := by
    obtain ⟨_, _, h2⟩ := noteB_o hn (show ¬ (3 : Int) = 1 by decide)
    rcases h2 with ⟨k, _⟩ | ⟨_, ⟨k, hc, _⟩ | ⟨k, hc, _⟩⟩
    · exact absurd (show (3 : Int) = 4 from k) (by decide)
    · exact absurd (show (3 : Int) = 2 from k) (by decide)
    exact chB_read hc
  change AC _ _ [.sc (tabV t), .sc (.int .i64 f), .ag [AI 3, AI fr, AI fm, AI hv.a, AI hv.b, AI hv.c, AI hv.d, AI hv.e, AI hv.f, .sl (tg.map TagD.cs), .sl (ed.map EdgeD.cs), .sl (os.map OpD.cs)]] _; refine AC.of' 77 4 Try.func7 rfl ?_; change AW _ _ _ _ [TK.mk 0 .off, TK.mk 0 .off, TK.mk 0 .off, TK.mk 0 .off]; refine AW.g (AL.oq (AOpB.op (op_tabbox 0 rfl rfl rfl ?_))); refine AL.n ?_; refine AL.oq (AOpB.op (oB 1 ?_)); refine AL.n ?_; (iterate 2 refine AL.ra ?_); refine AL.nil (AW.seq (AW.g (AL.rm ?_))); refine AL.cl (cright_t f hok) ?_; refine AL.n ?_; refine AL.r qu ?_; refine AL.nil (AW.cond_f rfl (AW.skip (AW.seq (AW.g (AL.r (qN ag_28) ?_))))); refine AL.cl (tright_t ⟨3, fr, fm, hv, tg, ed, os⟩ hn) ?_; refine AL.n ?_; refine AL.r qu ?_; refine AL.nil (AW.cond_f rfl (AW.skip (AW.g (AL.rm ?_)))); refine AL.r (rd_conv_int rfl iss_3 ik_5 rfl (fb_wrap hok)) ?_; refine AL.oq (AOpB.op (bs_set rfl ap_35 ze_5 rfl rfl ?_)); refine AL.n ?_; refine AL.ra ?_; refine AL.nil (AW.g ?_); (iterate 2 refine AL.rm ?_); refine AL.r (qa fo_28_0) ?_; refine AL.r (ql ag_3) ?_; refine AL.oq (AOpB.op (op_call (pnum_c [fb f] f (by simp) hf 3 hw.kind) rfl (by kernel_rfl) rfl (none) ?_))
  rintro r rfl; refine AL.n ?_; refine AL.ra ?_; refine AL.nil (AW.g ?_); (iterate 2 refine AL.rm ?_); refine AL.r (qa fo_28_1) ?_; refine AL.r (ql ag_3) ?_; refine AL.cl (pnum_c (n2 f ⟨3, fr, fm, hv, tg, ed, os⟩) f (by omega) hf fr hw.from_) ?_; refine AL.n ?_; refine AL.ra ?_; refine AL.nil (AW.seq (AW.g (AL.r (qa fo_28_0) ?_))); refine AL.r (ql ag_3) ?_; refine AL.nil (AW.block (AW.g (AL.r qb ?_))); refine AL.ra ?_; refine AL.nil (AW.cond_f rfl (AW.g (AL.r qb ?_))); refine AL.ra ?_; refine AL.nil (AW.cond_f rfl (AW.g (AL.r qb ?_))); refine AL.ra ?_; refine AL.nil (AW.cond_t rfl (AW.region ?_)); (iterate 2 refine AL.rm ?_); refine AL.r (qa fo_28_6) ?_; refine AL.r (ql ag_26) ?_; refine AL.cl (tput_o (n3 f ⟨3, fr, fm, hv, tg, ed, os⟩) f (by omega) hf hok os hos.1 hw.ops (fun o ho => rightO_light (hos.2 o ho))) ?_; refine AL.n ?_; refine AL.ra ?_; refine AL.nil (AW.g (AL.r (rd_tab0 rfl ag_33 rfl rfl) ?_)); refine AL.rm ?_; refine AL.oq (AOpB.op (op_call (fput_o t ht (bytesN f ⟨3, fr, fm, hv, tg, ed, os⟩) (by omega)) rfl (by kernel_rfl) rfl (some 3) ?_))
  rintro r rfl; refine ⟨_, rfl, ?_⟩; refine AL.n ?_; refine AL.rm ?_; refine AL.r qe ?_; refine AL.r qe ?_; (iterate 2 refine AL.ra ?_); refine AL.nil (AW.seq (AW.g (AL.rm ?_))); refine AL.r qb ?_; refine AL.nil (AW.cd rfl (fun h77 => ?_) (fun h77 => ?_))
  ·first | exact absurd h77 (by decide) | exact absurd rfl h77 | (simp at h77)
  refine AW.skip (AW.g (AL.rm ?_)); (iterate 2 refine AL.ra ?_); refine AL.nil (AW.ret (res2ot rfl (ResV.tmp rfl) rfl (ResV.tmp rfl) ?_)); rfl
set_option maxHeartbeats 2000000 in
theorem pack_4 (f : Int) (hf : i64R f) (hok : okF f = true) (fr fm : Int) (hv : V6D) (tg : List TagD) (ed : List EdgeD) (os : List OpD) (hw : (NoteD.mk 4 fr fm hv tg ed os).Wf) (hn : noteB ⟨4, fr, fm, hv, tg, ed, os⟩ = true) : AC Try.prog 7 [.sc (tabV t), .sc (.int .i64 f), (NoteD.mk 4 fr fm hv tg ed os).av] (fun r => r = .ot 5 1 (byA (frameN t (bytesN f ⟨4, fr, fm, hv, tg, ed, os⟩))) [AI 0]) := by
  obtain ⟨l2, l3, l4, l5⟩ := n5_len f ⟨4, fr, fm, hv, tg, ed, os⟩
  have hln := bytesN_len (f := f) hn
  have hq : noteB ⟨4, fr, fm, hv, tg, ed, os⟩ = true := hn
  change AC _ _ [.sc (tabV t), .sc (.int .i64 f), .ag [AI 4, AI fr, AI fm, AI hv.a, AI hv.b, AI hv.c, AI hv.d, AI hv.e, AI hv.f, .sl (tg.map TagD.cs), .sl (ed.map EdgeD.cs), .sl (os.map OpD.cs)]] _; refine AC.of' 77 4 Try.func7 rfl ?_; change AW _ _ _ _ [TK.mk 0 .off, TK.mk 0 .off, TK.mk 0 .off, TK.mk 0 .off]; refine AW.g (AL.oq (AOpB.op (op_tabbox 0 rfl rfl rfl ?_))); refine AL.n ?_; refine AL.oq (AOpB.op (oB 1 ?_)); refine AL.n ?_; (iterate 2 refine AL.ra ?_); refine AL.nil (AW.seq (AW.g (AL.rm ?_))); refine AL.cl (cright_t f hok) ?_; refine AL.n ?_; refine AL.r qu ?_; refine AL.nil (AW.cond_f rfl (AW.skip (AW.seq (AW.g (AL.r (qN ag_28) ?_))))); refine AL.cl (tright_t ⟨4, fr, fm, hv, tg, ed, os⟩ hn) ?_; refine AL.n ?_; refine AL.r qu ?_; refine AL.nil (AW.cond_f rfl (AW.skip (AW.g (AL.rm ?_)))); refine AL.r (rd_conv_int rfl iss_3 ik_5 rfl (fb_wrap hok)) ?_; refine AL.oq (AOpB.op (bs_set rfl ap_35 ze_5 rfl rfl ?_)); refine AL.n ?_; refine AL.ra ?_; refine AL.nil (AW.g ?_); (iterate 2 refine AL.rm ?_); refine AL.r (qa fo_28_0) ?_; refine AL.r (ql ag_3) ?_; refine AL.oq (AOpB.op (op_call (pnum_c [fb f] f (by simp) hf 4 hw.kind) rfl (by kernel_rfl) rfl (none) ?_))
  rintro r rfl; refine AL.n ?_; refine AL.ra ?_; refine AL.nil (AW.g ?_); (iterate 2 refine AL.rm ?_); refine AL.r (qa fo_28_1) ?_; refine AL.r (ql ag_3) ?_; refine AL.cl (pnum_c (n2 f ⟨4, fr, fm, hv, tg, ed, os⟩) f (by omega) hf fr hw.from_) ?_; refine AL.n ?_; refine AL.ra ?_; refine AL.nil (AW.seq (AW.g (AL.r (qa fo_28_0) ?_))); refine AL.r (ql ag_3) ?_; refine AL.nil (AW.block (AW.g (AL.r qb ?_))); refine AL.ra ?_; refine AL.nil (AW.cond_f rfl (AW.g (AL.r qb ?_))); refine AL.ra ?_; refine AL.nil (AW.cond_f rfl (AW.g (AL.r qb ?_))); refine AL.ra ?_; refine AL.nil (AW.cond_f rfl (AW.g (AL.r qb ?_))); refine AL.ra ?_; refine AL.nil (AW.cond_t rfl (AW.region ?_)); (iterate 2 refine AL.rm ?_); refine AL.r (qa fo_28_3) ?_; refine AL.r (qN ag_23) ?_; refine AL.cl (vput_c (n3 f ⟨4, fr, fm, hv, tg, ed, os⟩) f hv (by omega) hf hw.have_) ?_; refine AL.n ?_; refine AL.ra ?_
  refine AL.nil (AW.g (AL.r (rd_tab0 rfl ag_33 rfl rfl) ?_)); refine AL.rm ?_; refine AL.oq (AOpB.op (op_call (fput_o t ht (bytesN f ⟨4, fr, fm, hv, tg, ed, os⟩) (by omega)) rfl (by kernel_rfl) rfl (some 3) ?_)); rintro r rfl; refine ⟨_, rfl, ?_⟩; refine AL.n ?_; refine AL.rm ?_; refine AL.r qe ?_; refine AL.r qe ?_; (iterate 2 refine AL.ra ?_); refine AL.nil (AW.seq (AW.g (AL.rm ?_))); refine AL.r qb ?_; refine AL.nil (AW.cd rfl (fun h77 => ?_) (fun h77 => ?_))
  ·first | exact absurd h77 (by decide) | exact absurd rfl h77 | (simp at h77)
  refine AW.skip (AW.g (AL.rm ?_)); (iterate 2 refine AL.ra ?_); refine AL.nil (AW.ret (res2ot rfl (ResV.tmp rfl) rfl (ResV.tmp rfl) ?_)); rfl
end
theorem pack_ok (t : Nat → Nat) (ht : ∀ i, i < 256 → t i < 4294967296) (f : Int) (hf : i64R f) (hok : okF f = true) (n : NoteD) (hw : n.Wf) (hn : noteB n = true) : AC Try.prog 7 [.sc (tabV t), .sc (.int .i64 f), n.av] (fun r => r = .ot 5 1 (byA (frameN t (bytesN f n))) [AI 0]) := by
  obtain ⟨k, fr, fm, hv, tg, ed, os⟩ := n
  by_cases h1 : k = 1
  · subst h1; exact pack_1 t ht f hf hok fr fm hv tg ed os hw hn
  obtain ⟨_, _, h2⟩ := noteB_o hn h1
  rcases h2 with ⟨h, _⟩ | ⟨_, ⟨h, _⟩ | ⟨h, _⟩⟩
  · obtain rfl : k = 4 := h; exact pack_4 t ht f hf hok fr fm hv tg ed os hw hn
  · obtain rfl : k = 2 := h; exact pack_2 t ht f hf hok fr fm hv tg ed os hw hn
  obtain rfl : k = 3 := h; exact pack_3 t ht f hf hok fr fm hv tg ed os hw hn
theorem pack_arg (t : Nat → Nat) (f : Int) (hok : okF f = false) (n : NoteD) : AC Try.prog 7 [.sc (tabV t), .sc (.int .i64 f), n.av] (fun r => r = .s (.tu [.sl [], AI 2])) := by
  change AC _ _ [.sc (tabV t), .sc (.int .i64 f), .ag [AI n.kind, AI n.from_, AI n.fmt, AI n.have_.a, AI n.have_.b, AI n.have_.c, AI n.have_.d, AI n.have_.e, AI n.have_.f, .sl (n.tags.map TagD.cs), .sl (n.edges.map EdgeD.cs), .sl (n.ops.map OpD.cs)]] _; refine AC.of' 77 3 Try.func7 rfl ?_; change AW _ _ _ _ [TK.mk 0 .off, TK.mk 0 .off, TK.mk 0 .off]; refine AW.g (AL.oq (AOpB.op (op_tabbox 0 rfl rfl rfl ?_))); refine AL.n ?_; refine AL.oq (AOpB.op (oB 1 ?_)); refine AL.n ?_; (iterate 2 refine AL.ra ?_); refine AL.nil (AW.seq (AW.g (AL.rm ?_))); refine AL.cl (cright_f f hok) ?_; refine AL.n ?_; refine AL.r qu ?_; refine AL.nil (AW.cond_t rfl (AW.g ?_)); (iterate 2 refine AL.ra ?_); refine AL.nil (AW.ret (res2 rfl (ResV.tmp rfl) rfl (ResV.tmp rfl) rfl ?_)); rfl
theorem pack_form (t : Nat → Nat) (f : Int) (hok : okF f = true) (n : NoteD) (hn : noteB n = false) : AC Try.prog 7 [.sc (tabV t), .sc (.int .i64 f), n.av] (fun r => r = .s (.tu [.sl [], AI 5])) := by
  change AC _ _ [.sc (tabV t), .sc (.int .i64 f), .ag [AI n.kind, AI n.from_, AI n.fmt, AI n.have_.a, AI n.have_.b, AI n.have_.c, AI n.have_.d, AI n.have_.e, AI n.have_.f, .sl (n.tags.map TagD.cs), .sl (n.edges.map EdgeD.cs), .sl (n.ops.map OpD.cs)]] _; refine AC.of' 77 3 Try.func7 rfl ?_; change AW _ _ _ _ [TK.mk 0 .off, TK.mk 0 .off, TK.mk 0 .off]; refine AW.g (AL.oq (AOpB.op (op_tabbox 0 rfl rfl rfl ?_))); refine AL.n ?_; refine AL.oq (AOpB.op (oB 1 ?_)); refine AL.n ?_; (iterate 2 refine AL.ra ?_); refine AL.nil (AW.seq (AW.g (AL.rm ?_))); refine AL.cl (cright_t f hok) ?_; refine AL.n ?_; refine AL.r qu ?_; refine AL.nil (AW.cond_f rfl (AW.skip (AW.seq (AW.g (AL.r (qN ag_28) ?_))))); refine AL.cl (tright_f n hn) ?_; refine AL.n ?_; refine AL.r qu ?_; refine AL.nil (AW.cond_t rfl (AW.g ?_)); (iterate 2 refine AL.ra ?_); refine AL.nil (AW.ret (res2 rfl (ResV.tmp rfl) rfl (ResV.tmp rfl) rfl ?_)); rfl
end Go.Proofs.Ytlapcfnmmpbeeaa
