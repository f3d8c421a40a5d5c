/- A part of a proof. -/
import Derived.Test.YtlapcfnmmpbeeaaPT30
set_option linter.unusedSimpArgs false
set_option linter.unusedVariables false
namespace Go.Proofs.Ytlapcfnmmpbeeaa
set_option maxRecDepth 100000
set_option maxRecDepth 100000
open Go.RowKit
structure OpD.Wf (o : OpD) : Prop where
  id1 : i64R o.id.rep
  id2 : i64R o.id.n
  sc1 : i64R o.schema.rep
  sc2 : i64R o.schema.n
  time : i64R o.time
  kind : i64R o.kind
  scope : i64R o.at_.scope
  delta : i64R o.delta
  drops : ∀ t ∈ o.drops, i64R t.rep ∧ i64R t.n
structure OpD.Light (o : OpD) : Prop where
  cart : o.cart.length ≤ 200
  item : o.item.length ≤ 200
  group : o.at_.group.length ≤ 200
  name : o.at_.name.length ≤ 200
  text : o.text.length ≤ 200
  drops : o.drops.length ≤ 200
theorem heavyO_light {o : OpD} (h : heavyO o = false) : o.Light := by
  unfold heavyO at h
  simp only [Bool.or_eq_false_iff, decide_eq_false_iff_not] at h
  exact ⟨by omega, by omega, by omega, by omega, by omega, by omega⟩
def po1 (f : Int) (o : OpD) : List UInt8 := tagP f o.id
def po2 (f : Int) (o : OpD) : List UInt8 := po1 f o ++ tagP f o.schema
def po3 (f : Int) (o : OpD) : List UInt8 := po2 f o ++ putN f o.time
def po4 (f : Int) (o : OpD) : List UInt8 := po3 f o ++ textP f o.cart
def po5 (f : Int) (o : OpD) : List UInt8 := po4 f o ++ putN f o.kind
def po6 (f : Int) (o : OpD) : List UInt8 := po5 f o ++ textP f o.item
def po7 (f : Int) (o : OpD) : List UInt8 := po6 f o ++ refP f o.at_
def po8 (f : Int) (o : OpD) : List UInt8 := po7 f o ++ putN f o.delta
def po9 (f : Int) (o : OpD) : List UInt8 := po8 f o ++ flagB o.has
def po10 (f : Int) (o : OpD) : List UInt8 := po9 f o ++ textP f o.text
def po11 (f : Int) (o : OpD) : List UInt8 := po10 f o ++ putN f (o.drops.length : Nat)
def po12 (f : Int) (o : OpD) (k : Nat) : List UInt8 := po11 f o ++ (o.drops.take k).flatMap (tagP f)
def putO (f : Int) (o : OpD) : List UInt8 := po12 f o o.drops.length
theorem po12_len {f : Int} {o : OpD} (h : o.Light) (k : Nat) : (po12 f o k).length ≤ 2000 + 20 * k := by
  have a1 := tagP_len f o.id; have a2 := tagP_len f o.schema; have a3 := putN_len f o.time; have a4 := textP_len f o.cart; have a5 := putN_len f o.kind; have a6 := textP_len f o.item
  have a7 := refP_len f o.at_; have a8 := putN_len f o.delta; have a10 := textP_len f o.text; have a11 := putN_len f (o.drops.length : Nat)
  have h1 := h.cart; have h2 := h.item; have h3 := h.group; have h4 := h.name; have h5 := h.text
  have hd : ∀ l : List TagD, (l.flatMap (tagP f)).length ≤ 20 * l.length := fun l => by
    induction l with
    | nil => simp
    | cons t l ih => have := tagP_len f t; simp only [List.flatMap_cons, List.length_append, List.length_cons]; omega
  have := hd (o.drops.take k)
  have ht : (o.drops.take k).length ≤ k := by rw [List.length_take]; omega
  unfold po12 po11 po10 po9 po8 po7 po6 po5 po4 po3 po2 po1 flagB
  simp only [List.length_append, List.length_cons, List.length_nil]
  omega
theorem ptag_n (f : Int) (hf : i64R f) (t : TagD) (h1 : i64R t.rep) (h2 : i64R t.n) : AC Try.prog 17 [.sl (byA []), .sc (.int .i64 f), t.av] (fun r => r = .s (.sl (byA (tagP f t)))) := by
  have := ptag_c [] f (by simp) hf t h1 h2
  rwa [List.nil_append] at this
theorem po12_row {f : Int} {o : OpD} {k g T : Nat} (hk : k < o.drops.length) : TK.mk g (.own T 1 (byA (po12 f o k ++ tagP f o.drops[k]))) = TK.mk g (.own T 1 (byA (po12 f o (k + 1)))) := by
  have : po12 f o (k + 1) = po12 f o k ++ tagP f o.drops[k] := by
    unfold po12
    rw [← List.take_append_getElem hk, List.flatMap_append]; simp
  rw [this]
set_option maxHeartbeats 1000000 in
theorem oput_c (b : List UInt8) (f : Int) (o : OpD) (hb : b.length ≤ 1000000) (hf : i64R f) (hw : o.Wf) (hl : o.Light) : AC Try.prog 21 [.sl (byA b), .sc (.int .i64 f), o.av] (fun r => r = .s (.sl (byA (b ++ if okF f then putO f o else [])))) := by
  have hd := hl.drops
  have h12 := po12_len (f := f) hl o.drops.length
  have h0 := po12_len (f := f) hl 0
  have l12 : po12 f o 0 = po11 f o := by unfold po12; simp
  rw [l12] at h0
  have e : (po11 f o).length ≤ 2000 := by omega
  have b10 : (po10 f o).length ≤ 2000 := by unfold po11 at e; rw [List.length_append] at e; omega
  have b9 : (po9 f o).length ≤ 2000 := by unfold po10 at b10; rw [List.length_append] at b10; omega
  have b8 : (po8 f o).length ≤ 2000 := by unfold po9 at b9; rw [List.length_append] at b9; omega
  have b7 : (po7 f o).length ≤ 2000 := by unfold po8 at b8; rw [List.length_append] at b8; omega
  have b6 : (po6 f o).length ≤ 2000 := by unfold po7 at b7; rw [List.length_append] at b7; omega
  have b5 : (po5 f o).length ≤ 2000 := by unfold po6 at b6; rw [List.length_append] at b6; omega
  have b4 : (po4 f o).length ≤ 2000 := by unfold po5 at b5; rw [List.length_append] at b5; omega
  have b3 : (po3 f o).length ≤ 2000 := by unfold po4 at b4; rw [List.length_append] at b4; omega
  have b2 : (po2 f o).length ≤ 2000 := by unfold po3 at b3; rw [List.length_append] at b3; omega
  have b1 : (po1 f o).length ≤ 2000 := by unfold po2 at b2; rw [List.length_append] at b2; omega
  have hb12 : ∀ k, (byA (po12 f o k)).length = (po12 f o k).length := fun k => byA_len _
  have hbb := byA_len b
  change AC _ _ [.sl (byA b), .sc (.int .i64 f), .ag [AI o.id.rep, AI o.id.n, AI o.schema.rep, AI o.schema.n, AI o.time, AS o.cart, AI o.kind, AS o.item, AI o.at_.scope, AS o.at_.group, AS o.at_.name, AI o.delta, AB o.has, AS o.text, .sl (o.drops.map TagD.cs)]] _; refine AC.of' 87 9 Try.func21 rfl ?_; change AW _ _ _ _ [TK.mk 0 .off, TK.mk 0 .off, TK.mk 0 .off, TK.mk 0 .off, TK.mk 0 .off, TK.mk 0 .off, TK.mk 0 .off, TK.mk 0 .off, TK.mk 0 .off]; refine AW.g (AL.oq (AOpB.op (oB 0 ?_))); refine AL.n ?_; refine AL.ra ?_; refine AL.nil (AW.g (AL.rm ?_)); refine AL.oq (op_append0M 1 rfl ap_35 rfl rfl (src_s rfl) (by rw [hbb]; omega) (by rw [hbb]; omega) ?_); refine AL.n ?_; refine AL.ra ?_; refine AL.nil (AW.seq (AW.g (AL.rm ?_))); refine AL.r qb ?_; refine AL.rm ?_; refine AL.fk (d := 15) rfl (fun h15 => ?_) (fun h15 => ?_)
  ·refine AL.n ?_; refine AL.ro (rd_move rfl rfl) ?_; refine AL.ro qb ?_; refine AL.r qt ?_; refine AL.nil (AW.cd rfl (fun h18 => ?_) (fun h18 => ?_))
   ·refine AW.g (AL.rm ?_); refine AL.settle 19 rfl rfl (by first | rfl | exact cont_owM _ _ _ _) ?_; refine AL.no ?_; refine AL.ra ?_; refine AL.nil (AW.ret (r1t ?_)); rw [if_neg (by unfold okF; grind), List.append_nil]
   refine AW.skip (AW.g ?_)
   have hF : okF f = true := (by unfold okF; grind)
   refine AL.rm ?_; refine AL.r (qa fo_67_0) ?_; refine AL.r (qN ag_51) ?_; refine AL.cl (ptag_n f hf o.id hw.id1 hw.id2) ?_; refine AL.n ?_; refine AL.ra ?_; refine AL.nil (AW.g ?_); (iterate 2 refine AL.rm ?_); refine AL.r (qa fo_67_1) ?_; refine AL.r (qN ag_51) ?_; refine AL.cl (ptag_c (po1 f o) f (by omega) hf o.schema hw.sc1 hw.sc2) ?_; refine AL.n ?_; refine AL.ra ?_; refine AL.nil (AW.g ?_); (iterate 2 refine AL.rm ?_); refine AL.r (qa fo_67_2) ?_; refine AL.r (ql ag_2) ?_; refine AL.cl (pnum_c (po2 f o) f (by omega) hf o.time hw.time) ?_; refine AL.n ?_; refine AL.ra ?_; refine AL.nil (AW.g ?_); (iterate 2 refine AL.rm ?_); refine AL.r (qa fo_67_3) ?_; refine AL.r (ql ag_9) ?_; refine AL.cl (ptext_c (po3 f o) f (by omega) hf o.cart (by have := hl.cart; omega)) ?_; refine AL.n ?_; refine AL.ra ?_; refine AL.nil (AW.g ?_); (iterate 2 refine AL.rm ?_); refine AL.r (qa fo_67_4) ?_; refine AL.r (ql ag_3) ?_; refine AL.oq (AOpB.op (op_call (pnum_c (po4 f o) f (by omega) hf o.kind hw.kind) rfl (by kernel_rfl) rfl (none) ?_))
   rintro r rfl; refine AL.n ?_; refine AL.ra ?_; refine AL.nil (AW.g ?_); (iterate 2 refine AL.rm ?_); refine AL.r (qa fo_67_5) ?_; refine AL.r (ql ag_9) ?_; refine AL.cl (ptext_c (po5 f o) f (by omega) hf o.item (by have := hl.item; omega)) ?_; refine AL.n ?_; refine AL.ra ?_; refine AL.nil (AW.g ?_); (iterate 2 refine AL.rm ?_); refine AL.r (qa fo_67_6) ?_; refine AL.r (qN ag_55) ?_; refine AL.cl (pref_c (po6 f o) f (by omega) hf o.at_ hw.scope (by have := hl.group; omega) (by have := hl.name; omega)) ?_; refine AL.n ?_; refine AL.ra ?_; refine AL.nil (AW.g ?_); (iterate 2 refine AL.rm ?_); refine AL.r (qa fo_67_7) ?_; refine AL.r (ql ag_2) ?_; refine AL.cl (pnum_c (po7 f o) f (by omega) hf o.delta hw.delta) ?_; refine AL.n ?_; refine AL.ra ?_; refine AL.nil (AW.g (AL.rm ?_)); refine AL.r (qa fo_67_8) ?_; refine AL.r (ql ag_4) ?_; refine AL.cl (pflag_c (po8 f o) (by omega) o.has) ?_; refine AL.n ?_; refine AL.ra ?_; refine AL.nil (AW.g ?_); (iterate 2 refine AL.rm ?_)
   refine AL.r (qa fo_67_9) ?_; refine AL.r (ql ag_9) ?_; refine AL.cl (ptext_c (po9 f o) f (by omega) hf o.text (by have := hl.text; omega)) ?_; refine AL.n ?_; refine AL.ra ?_; refine AL.nil (AW.g ?_); (iterate 2 refine AL.rm ?_); refine AL.r (qa fo_67_10) ?_; refine AL.r (ql ag_24) ?_; refine AL.r (lN el_24) ?_; refine AL.oq (AOpB.op (op_call (pnum_o (po10 f o) f (o.drops.length : Nat) (by omega) hf ⟨by omega, by omega⟩ hF) rfl (by kernel_rfl) rfl (some 5) ?_)); rintro r rfl; refine ⟨_, rfl, ?_⟩; refine AL.n ?_; refine AL.ra ?_; refine AL.nil (AW.seq (AW.g (AL.r (qa fo_67_10) ?_))); refine AL.r (ql ag_24) ?_; refine AL.r (lN el_24) ?_; refine AL.rm ?_; refine AL.nil (AW.block (AW.loopM (ι := Nat × Nat) [10, 78, 79, 80, 81, 82, 83, 84, 85, 86] (fun ⟨k, gL⟩ => [(77, AI (k : Int)), (8, .ow 5 gL)]) [6, 7] (fun ⟨k, gL⟩ => [(5, ⟨gL, .own 5 1 (byA (po12 f o k))⟩)]) (fun ⟨k, gL⟩ => k ≤ o.drops.length) (fun ⟨k, gL⟩ => o.drops.length - k) (0, 1) (Nat.zero_le _) wk (by simp only [anys, upds, offs, List.set_cons_zero, List.set_cons_succ]; repeat (first | exact Sk.nil _ | refine Sk.same _ ?_ | refine Sk.scr _ (by decide) ?_ | refine Sk.eq _ (by rw [l12]; rfl) ?_)) ?_)); rintro ⟨k, gL⟩ gs hJ; refine AW.nm ?_
   refine AW.g (AL.r qb ?_); refine AL.nil (AW.seq (AW.cd rfl (fun h78 => ?_) (fun h78 => ?_)))
   ·refine AW.skip (AW.seq (AW.block (AW.g (AL.r (rd_iaddr_sl rfl el_24 rfl rfl rfl (get_mapA (by omega)) rfl) ?_)))); refine AL.r (rd_loadN_ep rfl ag_51 rfl (Nat.le_of_ble_eq_true rfl) rfl) ?_; refine AL.oq (AOpB.op (oA 6 ze_51 ?_)); refine AL.n ?_; refine AL.oq (oS sz_51 ?_); refine AL.n ?_; refine AL.nil (AW.region ?_)
    have l3 := tagP_len f (o.drops[k]'(by omega))
    have l4 := po12_len (f := f) hl k
    (iterate 2 refine AL.rm ?_); refine AL.r (qN ag_51) ?_; refine AL.cl (ptag_n f hf (o.drops[k]'(by omega)) (hw.drops _ (List.getElem_mem _)).1 (hw.drops _ (List.getElem_mem _)).2) ?_; refine AL.n ?_; refine AL.oq (op_append rfl ap_35 rfl rfl (src_s rfl) (by simp only [byA_len]; omega) (by simp only [byA_len]; omega) ?_); refine AL.n ?_; refine AL.ra ?_; refine AL.nil ?_; change AW _ _ _ _ _; refine AW.region ?_; refine AL.r qA ?_; refine AL.rm ?_; refine AL.nil ?_; refine ⟨⟨k + 1, gL + 1⟩, ?_, by first | omega | (simp only []; omega), ?_, ?_⟩
    ·show k + 1 ≤ o.drops.length; omega
    ·exact wk
    simp only [anys, upds, offs, List.set_cons_zero, List.set_cons_succ]; repeat (first | exact Sk.nil _ | refine Sk.same _ ?_ | refine Sk.scr _ (by decide) ?_ | refine Sk.eq _ (by first | rfl | exact po12_row (by omega)) ?_)
   refine AW.exit ?_; change AW _ _ _ _ _; refine AW.g ?_
   have l4 := po12_len (f := f) hl k
   (iterate 2 refine AL.rm ?_); refine AL.oq (op_appendM rfl ap_35 rfl rfl (src_ow rfl rfl) (by simp only [byA_len]; omega) (by simp only [byA_len]; omega) ?_); refine AL.n ?_; refine AL.settle 89 rfl rfl (by first | rfl | exact cont_owM _ _ _ _) ?_; refine AL.no ?_; refine AL.ra ?_; refine AL.nil (AW.ret (r1t ?_)); obtain rfl : k = o.drops.length := (by omega); rw [if_pos hF]; rfl
  refine AL.n ?_; (iterate 2 refine AL.rf ?_); refine AL.r qf ?_; refine AL.nil (AW.cond_f rfl (AW.skip (AW.g ?_)))
  have hF : okF f = true := (by unfold okF; grind)
  refine AL.rm ?_; refine AL.r (qa fo_67_0) ?_; refine AL.r (qN ag_51) ?_; refine AL.cl (ptag_n f hf o.id hw.id1 hw.id2) ?_; refine AL.n ?_; refine AL.ra ?_; refine AL.nil (AW.g ?_); (iterate 2 refine AL.rm ?_); refine AL.r (qa fo_67_1) ?_; refine AL.r (qN ag_51) ?_; refine AL.cl (ptag_c (po1 f o) f (by omega) hf o.schema hw.sc1 hw.sc2) ?_; refine AL.n ?_; refine AL.ra ?_; refine AL.nil (AW.g ?_); (iterate 2 refine AL.rm ?_); refine AL.r (qa fo_67_2) ?_; refine AL.r (ql ag_2) ?_; refine AL.cl (pnum_c (po2 f o) f (by omega) hf o.time hw.time) ?_; refine AL.n ?_; refine AL.ra ?_; refine AL.nil (AW.g ?_); (iterate 2 refine AL.rm ?_); refine AL.r (qa fo_67_3) ?_; refine AL.r (ql ag_9) ?_; refine AL.cl (ptext_c (po3 f o) f (by omega) hf o.cart (by have := hl.cart; omega)) ?_; refine AL.n ?_; refine AL.ra ?_; refine AL.nil (AW.g ?_); (iterate 2 refine AL.rm ?_); refine AL.r (qa fo_67_4) ?_; refine AL.r (ql ag_3) ?_; refine AL.oq (AOpB.op (op_call (pnum_c (po4 f o) f (by omega) hf o.kind hw.kind) rfl (by kernel_rfl) rfl (none) ?_))
  rintro r rfl; refine AL.n ?_; refine AL.ra ?_; refine AL.nil (AW.g ?_); (iterate 2 refine AL.rm ?_); refine AL.r (qa fo_67_5) ?_; refine AL.r (ql ag_9) ?_; refine AL.cl (ptext_c (po5 f o) f (by omega) hf o.item (by have := hl.item; omega)) ?_; refine AL.n ?_; refine AL.ra ?_; refine AL.nil (AW.g ?_); (iterate 2 refine AL.rm ?_); refine AL.r (qa fo_67_6) ?_; refine AL.r (qN ag_55) ?_; refine AL.cl (pref_c (po6 f o) f (by omega) hf o.at_ hw.scope (by have := hl.group; omega) (by have := hl.name; omega)) ?_; refine AL.n ?_; refine AL.ra ?_; refine AL.nil (AW.g ?_); (iterate 2 refine AL.rm ?_); refine AL.r (qa fo_67_7) ?_; refine AL.r (ql ag_2) ?_; refine AL.cl (pnum_c (po7 f o) f (by omega) hf o.delta hw.delta) ?_; refine AL.n ?_; refine AL.ra ?_; refine AL.nil (AW.g (AL.rm ?_)); refine AL.r (qa fo_67_8) ?_; refine AL.r (ql ag_4) ?_; refine AL.cl (pflag_c (po8 f o) (by omega) o.has) ?_; refine AL.n ?_; refine AL.ra ?_; refine AL.nil (AW.g ?_); (iterate 2 refine AL.rm ?_)
  refine AL.r (qa fo_67_9) ?_; refine AL.r (ql ag_9) ?_; refine AL.cl (ptext_c (po9 f o) f (by omega) hf o.text (by have := hl.text; omega)) ?_; refine AL.n ?_; refine AL.ra ?_; refine AL.nil (AW.g ?_); (iterate 2 refine AL.rm ?_); refine AL.r (qa fo_67_10) ?_; refine AL.r (ql ag_24) ?_; refine AL.r (lN el_24) ?_; refine AL.oq (AOpB.op (op_call (pnum_o (po10 f o) f (o.drops.length : Nat) (by omega) hf ⟨by omega, by omega⟩ hF) rfl (by kernel_rfl) rfl (some 5) ?_)); rintro r rfl; refine ⟨_, rfl, ?_⟩; refine AL.n ?_; refine AL.ra ?_; refine AL.nil (AW.seq (AW.g (AL.r (qa fo_67_10) ?_))); refine AL.r (ql ag_24) ?_; refine AL.r (lN el_24) ?_; refine AL.rm ?_; refine AL.nil (AW.block (AW.loopM (ι := Nat × Nat) [10, 78, 79, 80, 81, 82, 83, 84, 85, 86] (fun ⟨k, gL⟩ => [(77, AI (k : Int)), (8, .ow 5 gL)]) [6, 7] (fun ⟨k, gL⟩ => [(5, ⟨gL, .own 5 1 (byA (po12 f o k))⟩)]) (fun ⟨k, gL⟩ => k ≤ o.drops.length) (fun ⟨k, gL⟩ => o.drops.length - k) (0, 1) (Nat.zero_le _) wk (by simp only [anys, upds, offs, List.set_cons_zero, List.set_cons_succ]; repeat (first | exact Sk.nil _ | refine Sk.same _ ?_ | refine Sk.scr _ (by decide) ?_ | refine Sk.eq _ (by rw [l12]; rfl) ?_)) ?_)); rintro ⟨k, gL⟩ gs hJ; refine AW.nm ?_
  refine AW.g (AL.r qb ?_); refine AL.nil (AW.seq (AW.cd rfl (fun h78 => ?_) (fun h78 => ?_)))
  ·refine AW.skip (AW.seq (AW.block (AW.g (AL.r (rd_iaddr_sl rfl el_24 rfl rfl rfl (get_mapA (by omega)) rfl) ?_)))); refine AL.r (rd_loadN_ep rfl ag_51 rfl (Nat.le_of_ble_eq_true rfl) rfl) ?_; refine AL.oq (AOpB.op (oA 6 ze_51 ?_)); refine AL.n ?_; refine AL.oq (oS sz_51 ?_); refine AL.n ?_; refine AL.nil (AW.region ?_)
   have l3 := tagP_len f (o.drops[k]'(by omega))
   have l4 := po12_len (f := f) hl k
   (iterate 2 refine AL.rm ?_); refine AL.r (qN ag_51) ?_; refine AL.cl (ptag_n f hf (o.drops[k]'(by omega)) (hw.drops _ (List.getElem_mem _)).1 (hw.drops _ (List.getElem_mem _)).2) ?_; refine AL.n ?_; refine AL.oq (op_append rfl ap_35 rfl rfl (src_s rfl) (by simp only [byA_len]; omega) (by simp only [byA_len]; omega) ?_); refine AL.n ?_; refine AL.ra ?_; refine AL.nil ?_; change AW _ _ _ _ _; refine AW.region ?_; refine AL.r qA ?_; refine AL.rm ?_; refine AL.nil ?_; refine ⟨⟨k + 1, gL + 1⟩, ?_, by first | omega | (simp only []; omega), ?_, ?_⟩
   ·show k + 1 ≤ o.drops.length; omega
   ·exact wk
   simp only [anys, upds, offs, List.set_cons_zero, List.set_cons_succ]; repeat (first | exact Sk.nil _ | refine Sk.same _ ?_ | refine Sk.scr _ (by decide) ?_ | refine Sk.eq _ (by first | rfl | exact po12_row (by omega)) ?_)
  refine AW.exit ?_; change AW _ _ _ _ _; refine AW.g ?_
  have l4 := po12_len (f := f) hl k
  (iterate 2 refine AL.rm ?_); refine AL.oq (op_appendM rfl ap_35 rfl rfl (src_ow rfl rfl) (by simp only [byA_len]; omega) (by simp only [byA_len]; omega) ?_); refine AL.n ?_; refine AL.settle 89 rfl rfl (by first | rfl | exact cont_owM _ _ _ _) ?_; refine AL.no ?_; refine AL.ra ?_; refine AL.nil (AW.ret (r1t ?_)); obtain rfl : k = o.drops.length := (by omega); rw [if_pos hF]; rfl
end Go.Proofs.Ytlapcfnmmpbeeaa
