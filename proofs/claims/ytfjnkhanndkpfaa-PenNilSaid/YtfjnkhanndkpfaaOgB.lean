/- An op as bytes, walked over abstract states. Conditions: ops of int64 numbers and short texts. -/
import Derived.Test.YtfjnkhanndkpfaaOgA
import Derived.Test.YtfjnkhanndkpfaaPnA
namespace Go.Proofs.Ytfjnkhanndkpfaa
set_option linter.unusedSimpArgs false
set_option linter.unusedVariables false
set_option maxRecDepth 100000
set_option maxRecDepth 100000
open Go.RowKit

structure OpD.Wf (o : OpD) : Prop where
  id1 : i64R o.id.rep
  id2 : i64R o.id.n
  sc1 : i64R o.schema.rep
  sc2 : i64R o.schema.n
  time : i64R o.time
  kind : i64R o.kind
  scope : i64R o.at_.scope
  delta : i64R o.delta
  drops : ∀ t ∈ o.drops, i64R t.rep ∧ i64R t.n
structure OpD.Light (o : OpD) : Prop where
  cart : o.cart.length ≤ 200
  item : o.item.length ≤ 200
  group : o.at_.group.length ≤ 200
  name : o.at_.name.length ≤ 200
  text : o.text.length ≤ 200
  drops : o.drops.length ≤ 200
theorem heavyO_light {o : OpD} (h : heavyO o = false) : o.Light := by
  unfold heavyO at h
  simp only [Bool.or_eq_false_iff, decide_eq_false_iff_not] at h
  exact ⟨by omega, by omega, by omega, by omega, by omega, by omega⟩
def po1 (f : Int) (o : OpD) : List UInt8 := tagP f o.id
def po2 (f : Int) (o : OpD) : List UInt8 := po1 f o ++ tagP f o.schema
def po3 (f : Int) (o : OpD) : List UInt8 := po2 f o ++ putN f o.time
def po4 (f : Int) (o : OpD) : List UInt8 := po3 f o ++ textP f o.cart
def po5 (f : Int) (o : OpD) : List UInt8 := po4 f o ++ putN f o.kind
def po6 (f : Int) (o : OpD) : List UInt8 := po5 f o ++ textP f o.item
def po7 (f : Int) (o : OpD) : List UInt8 := po6 f o ++ refP f o.at_
def po8 (f : Int) (o : OpD) : List UInt8 := po7 f o ++ putN f o.delta
def po9 (f : Int) (o : OpD) : List UInt8 := po8 f o ++ flagB o.has
def po10 (f : Int) (o : OpD) : List UInt8 := po9 f o ++ textP f o.text
def po11 (f : Int) (o : OpD) : List UInt8 := po10 f o ++ putN f (o.drops.length : Nat)
def po12 (f : Int) (o : OpD) (k : Nat) : List UInt8 := po11 f o ++ (o.drops.take k).flatMap (tagP f)
def putO (f : Int) (o : OpD) : List UInt8 := po12 f o o.drops.length
theorem po12_len {f : Int} {o : OpD} (h : o.Light) (k : Nat) : (po12 f o k).length ≤ 2000 + 20 * k := by
  have a1 := tagP_len f o.id; have a2 := tagP_len f o.schema; have a3 := putN_len f o.time; have a4 := textP_len f o.cart; have a5 := putN_len f o.kind; have a6 := textP_len f o.item
  have a7 := refP_len f o.at_; have a8 := putN_len f o.delta; have a10 := textP_len f o.text; have a11 := putN_len f (o.drops.length : Nat)
  have h1 := h.cart; have h2 := h.item; have h3 := h.group; have h4 := h.name; have h5 := h.text
  have hd : ∀ l : List TagD, (l.flatMap (tagP f)).length ≤ 20 * l.length := fun l => by
    induction l with
    | nil => simp
    | cons t l ih => have := tagP_len f t; simp only [List.flatMap_cons, List.length_append, List.length_cons]; omega
  have := hd (o.drops.take k)
  have ht : (o.drops.take k).length ≤ k := by rw [List.length_take]; omega
  unfold po12 po11 po10 po9 po8 po7 po6 po5 po4 po3 po2 po1 flagB
  simp only [List.length_append, List.length_cons, List.length_nil]
  omega
theorem po12_pre {f : Int} {o : OpD} (k : Nat) : (po11 f o).length ≤ (po12 f o k).length := by unfold po12; rw [List.length_append]; omega
theorem ptag_n (f : Int) (hf : i64R f) (t : TagD) (h1 : i64R t.rep) (h2 : i64R t.n) : AC Try.prog 88 [.sl (byA []), .sc (.int .i64 f), t.av] (fun r => r = .s (.sl (byA (tagP f t)))) := by
  have := ptag_c [] f (by simp) hf t h1 h2
  rwa [List.nil_append] at this
theorem po12_row {f : Int} {o : OpD} {k g T : Nat} (hk : k < o.drops.length) : TK.mk g (.own T 1 (byA (po12 f o k ++ tagP f o.drops[k]))) = TK.mk g (.own T 1 (byA (po12 f o (k + 1)))) := by
  have : po12 f o (k + 1) = po12 f o k ++ tagP f o.drops[k] := by
    unfold po12
    rw [← List.take_append_getElem hk, List.flatMap_append]; simp
  rw [this]
set_option maxHeartbeats 1000000 in
theorem oput_c (b : List UInt8) (f : Int) (o : OpD) (hb : b.length ≤ 1000000) (hf : i64R f) (hw : o.Wf) (hl : o.Light) : AC Try.prog 68 [.sl (byA b), .sc (.int .i64 f), o.av] (fun r => r = .s (.sl (byA (b ++ if okF f then putO f o else [])))) := by
  have hd := hl.drops
  have h12 := po12_len (f := f) hl o.drops.length
  have h0 := po12_len (f := f) hl 0
  have l12 : po12 f o 0 = po11 f o := by unfold po12; simp
  rw [l12] at h0
  have e : (po11 f o).length ≤ 2000 := by omega
  have b10 : (po10 f o).length ≤ 2000 := by unfold po11 at e; rw [List.length_append] at e; omega
  have b9 : (po9 f o).length ≤ 2000 := by unfold po10 at b10; rw [List.length_append] at b10; omega
  have b8 : (po8 f o).length ≤ 2000 := by unfold po9 at b9; rw [List.length_append] at b9; omega
  have b7 : (po7 f o).length ≤ 2000 := by unfold po8 at b8; rw [List.length_append] at b8; omega
  have b6 : (po6 f o).length ≤ 2000 := by unfold po7 at b7; rw [List.length_append] at b7; omega
  have b5 : (po5 f o).length ≤ 2000 := by unfold po6 at b6; rw [List.length_append] at b6; omega
  have b4 : (po4 f o).length ≤ 2000 := by unfold po5 at b5; rw [List.length_append] at b5; omega
  have b3 : (po3 f o).length ≤ 2000 := by unfold po4 at b4; rw [List.length_append] at b4; omega
  have b2 : (po2 f o).length ≤ 2000 := by unfold po3 at b3; rw [List.length_append] at b3; omega
  have b1 : (po1 f o).length ≤ 2000 := by unfold po2 at b2; rw [List.length_append] at b2; omega
  have hb12 : ∀ k, (byA (po12 f o k)).length = (po12 f o k).length := fun k => byA_len _
  have hbb := byA_len b
  change AC _ _ [.sl (byA b), .sc (.int .i64 f), .ag [AI o.id.rep, AI o.id.n, AI o.schema.rep, AI o.schema.n, AI o.time, AS o.cart, AI o.kind, AS o.item, AI o.at_.scope, AS o.at_.group, AS o.at_.name, AI o.delta, AB o.has, AS o.text, .sl (o.drops.map TagD.cs)]] _
  refine AC.of' 87 9 Try.func68 rfl ?_
  change AW _ _ _ _ [TK.mk 0 .off, TK.mk 0 .off, TK.mk 0 .off, TK.mk 0 .off, TK.mk 0 .off, TK.mk 0 .off, TK.mk 0 .off, TK.mk 0 .off, TK.mk 0 .off]
  refine AW.seq ?_
  refine AW.region ?_
  refine AL.op rfl (AOpB.op (op_box 0 rfl rfl rfl rfl rfl ?_))
  refine AL.n ?_
  refine AL.ra ?_
  refine AL.nil ?_
  change AW _ _ _ _ _
  refine AW.seq ?_
  refine AW.region ?_
  refine AL.rm ?_
  refine AL.op rfl (op_append0M 1 rfl ap_83 rfl rfl (src_s rfl) (by rw [hbb]; omega) (by rw [hbb]; omega) ?_)
  refine AL.n ?_
  refine AL.ra ?_
  refine AL.nil ?_
  change AW _ _ _ _ _
  refine AW.seq ?_
  refine AW.seq ?_
  refine AW.region ?_
  refine AL.rm ?_
  refine AL.r (rd_bin rfl rfl rfl (fun _ => rfl)) ?_
  refine AL.rm ?_
  refine AL.fk (d := 15) rfl (fun h15 => ?_) (fun h15 => ?_)
  ·skip
   refine AL.n ?_
   refine AL.ro (rd_move rfl rfl) ?_
   refine AL.ro (rd_bin rfl rfl rfl (fun _ => rfl)) ?_
   refine AL.r (rd_pick_t rfl rfl rfl) ?_
   refine AL.nil ?_
   change AW _ _ _ _ _
   refine AW.cd rfl (fun h18 => ?_) (fun h18 => ?_)
   ·skip
    refine AW.seq ?_
    refine AW.region ?_
    refine AL.rm ?_
    refine AL.settle 19 rfl rfl (by first | rfl | exact cont_owM _ _ _ _) ?_
    refine AL.no ?_
    refine AL.ra ?_
    refine AL.nil ?_
    change AW _ _ _ _ _
    refine AW.ret ?_
    change ResA _ _ _ _ _
    refine res1 rfl (ResV.tmp rfl) rfl ?_
    rw [if_neg (by unfold okF; grind), List.append_nil]
   ·skip
    refine AW.skip ?_
    change AW _ _ _ _ _
    refine AW.seq ?_
    refine AW.region ?_
    have hF : okF f = true := (by unfold okF; grind)
    refine AL.rm ?_
    refine AL.r (rd_faddr_bx rfl fo_47_0 rfl rfl ⟨_, _, rfl⟩) ?_
    refine AL.r (rd_loadN_bx rfl ag_44 rfl rfl (Nat.le_of_ble_eq_true rfl) rfl) ?_
    refine AL.op rfl (AOpB.op (op_call (ptag_n f hf o.id hw.id1 hw.id2) rfl (by kernel_rfl) rfl (none) ?_))
    rintro r rfl
    refine AL.n ?_
    refine AL.ra ?_
    refine AL.nil ?_
    change AW _ _ _ _ _
    refine AW.seq ?_
    refine AW.region ?_
    refine AL.rm ?_
    refine AL.rm ?_
    refine AL.r (rd_faddr_bx rfl fo_47_1 rfl rfl ⟨_, _, rfl⟩) ?_
    refine AL.r (rd_loadN_bx rfl ag_44 rfl rfl (Nat.le_of_ble_eq_true rfl) rfl) ?_
    refine AL.op rfl (AOpB.op (op_call (ptag_c (po1 f o) f (by omega) hf o.schema hw.sc1 hw.sc2) rfl (by kernel_rfl) rfl (none) ?_))
    rintro r rfl
    refine AL.n ?_
    refine AL.ra ?_
    refine AL.nil ?_
    change AW _ _ _ _ _
    refine AW.seq ?_
    refine AW.region ?_
    refine AL.rm ?_
    refine AL.rm ?_
    refine AL.r (rd_faddr_bx rfl fo_47_2 rfl rfl ⟨_, _, rfl⟩) ?_
    refine AL.r (rd_load_bx rfl ag_2 rfl rfl rfl) ?_
    refine AL.op rfl (AOpB.op (op_call (pnum_c (po2 f o) f (by omega) hf o.time hw.time) rfl (by kernel_rfl) rfl (none) ?_))
    rintro r rfl
    refine AL.n ?_
    refine AL.ra ?_
    refine AL.nil ?_
    change AW _ _ _ _ _
    refine AW.seq ?_
    refine AW.region ?_
    refine AL.rm ?_
    refine AL.rm ?_
    refine AL.r (rd_faddr_bx rfl fo_47_3 rfl rfl ⟨_, _, rfl⟩) ?_
    refine AL.r (rd_load_bx rfl ag_9 rfl rfl rfl) ?_
    refine AL.op rfl (AOpB.op (op_call (ptext_c (po3 f o) f (by omega) hf o.cart (by have := hl.cart; omega)) rfl (by kernel_rfl) rfl (none) ?_))
    rintro r rfl
    refine AL.n ?_
    refine AL.ra ?_
    refine AL.nil ?_
    change AW _ _ _ _ _
    refine AW.seq ?_
    refine AW.region ?_
    refine AL.rm ?_
    refine AL.rm ?_
    refine AL.r (rd_faddr_bx rfl fo_47_4 rfl rfl ⟨_, _, rfl⟩) ?_
    refine AL.r (rd_load_bx rfl ag_3 rfl rfl rfl) ?_
    refine AL.op rfl (AOpB.op (op_call (pnum_c (po4 f o) f (by omega) hf o.kind hw.kind) rfl (by kernel_rfl) rfl (none) ?_))
    rintro r rfl
    refine AL.n ?_
    refine AL.ra ?_
    refine AL.nil ?_
    change AW _ _ _ _ _
    refine AW.seq ?_
    refine AW.region ?_
    refine AL.rm ?_
    refine AL.rm ?_
    refine AL.r (rd_faddr_bx rfl fo_47_5 rfl rfl ⟨_, _, rfl⟩) ?_
    refine AL.r (rd_load_bx rfl ag_9 rfl rfl rfl) ?_
    refine AL.op rfl (AOpB.op (op_call (ptext_c (po5 f o) f (by omega) hf o.item (by have := hl.item; omega)) rfl (by kernel_rfl) rfl (none) ?_))
    rintro r rfl
    refine AL.n ?_
    refine AL.ra ?_
    refine AL.nil ?_
    change AW _ _ _ _ _
    refine AW.seq ?_
    refine AW.region ?_
    refine AL.rm ?_
    refine AL.rm ?_
    refine AL.r (rd_faddr_bx rfl fo_47_6 rfl rfl ⟨_, _, rfl⟩) ?_
    refine AL.r (rd_loadN_bx rfl ag_27 rfl rfl (Nat.le_of_ble_eq_true rfl) rfl) ?_
    refine AL.op rfl (AOpB.op (op_call (pref_c (po6 f o) f (by omega) hf o.at_ hw.scope (by have := hl.group; omega) (by have := hl.name; omega)) rfl (by kernel_rfl) rfl (none) ?_))
    rintro r rfl
    refine AL.n ?_
    refine AL.ra ?_
    refine AL.nil ?_
    change AW _ _ _ _ _
    refine AW.seq ?_
    refine AW.region ?_
    refine AL.rm ?_
    refine AL.rm ?_
    refine AL.r (rd_faddr_bx rfl fo_47_7 rfl rfl ⟨_, _, rfl⟩) ?_
    refine AL.r (rd_load_bx rfl ag_2 rfl rfl rfl) ?_
    refine AL.op rfl (AOpB.op (op_call (pnum_c (po7 f o) f (by omega) hf o.delta hw.delta) rfl (by kernel_rfl) rfl (none) ?_))
    rintro r rfl
    refine AL.n ?_
    refine AL.ra ?_
    refine AL.nil ?_
    change AW _ _ _ _ _
    refine AW.seq ?_
    refine AW.region ?_
    refine AL.rm ?_
    refine AL.r (rd_faddr_bx rfl fo_47_8 rfl rfl ⟨_, _, rfl⟩) ?_
    refine AL.r (rd_load_bx rfl ag_4 rfl rfl rfl) ?_
    refine AL.op rfl (AOpB.op (op_call (pflag_c (po8 f o) (by omega) o.has) rfl (by kernel_rfl) rfl (none) ?_))
    rintro r rfl
    refine AL.n ?_
    refine AL.ra ?_
    refine AL.nil ?_
    change AW _ _ _ _ _
    refine AW.seq ?_
    refine AW.region ?_
    refine AL.rm ?_
    refine AL.rm ?_
    refine AL.r (rd_faddr_bx rfl fo_47_9 rfl rfl ⟨_, _, rfl⟩) ?_
    refine AL.r (rd_load_bx rfl ag_9 rfl rfl rfl) ?_
    refine AL.op rfl (AOpB.op (op_call (ptext_c (po9 f o) f (by omega) hf o.text (by have := hl.text; omega)) rfl (by kernel_rfl) rfl (none) ?_))
    rintro r rfl
    refine AL.n ?_
    refine AL.ra ?_
    refine AL.nil ?_
    change AW _ _ _ _ _
    refine AW.seq ?_
    refine AW.region ?_
    refine AL.rm ?_
    refine AL.rm ?_
    refine AL.r (rd_faddr_bx rfl fo_47_10 rfl rfl ⟨_, _, rfl⟩) ?_
    refine AL.r (rd_load_bx rfl ag_45 rfl rfl rfl) ?_
    refine AL.r (rd_len_sl rfl el_45 rfl) ?_
    refine AL.op rfl (AOpB.op (op_call (pnum_o (po10 f o) f (o.drops.length : Nat) (by omega) hf ⟨by omega, by omega⟩ hF) rfl (by kernel_rfl) rfl (some 5) ?_))
    rintro r rfl
    refine ⟨_, rfl, ?_⟩
    refine AL.n ?_
    refine AL.ra ?_
    refine AL.nil ?_
    change AW _ _ _ _ _
    refine AW.seq ?_
    refine AW.seq ?_
    refine AW.region ?_
    refine AL.r (rd_faddr_bx rfl fo_47_10 rfl rfl ⟨_, _, rfl⟩) ?_
    refine AL.r (rd_load_bx rfl ag_45 rfl rfl rfl) ?_
    refine AL.r (rd_len_sl rfl el_45 rfl) ?_
    refine AL.rm ?_
    refine AL.nil ?_
    change AW _ _ _ _ _
    refine AW.block ?_
    refine AW.loopM (ι := Nat × Nat) [10, 78, 79, 80, 81, 82, 83, 84, 85, 86] (fun ⟨k, gL⟩ => [(77, AI (k : Int)), (8, .ow 5 gL)]) [6, 7] (fun ⟨k, gL⟩ => [(5, ⟨gL, .own 5 1 (byA (po12 f o k))⟩)]) (fun ⟨k, gL⟩ => k ≤ o.drops.length) (fun ⟨k, gL⟩ => o.drops.length - k) (0, 1) (Nat.zero_le _) (by simp only [anys, upds, offs, List.set_cons_zero, List.set_cons_succ]; repeat (first | exact Wk.nil | refine Wk.same ?_ | refine Wk.any ?_)) (by simp only [anys, upds, offs, List.set_cons_zero, List.set_cons_succ]; repeat (first | exact Sk.nil _ | refine Sk.same _ ?_ | refine Sk.scr _ (by decide) ?_ | refine Sk.eq _ (by rw [l12]; rfl) ?_)) ?_
    rintro ⟨k, gL⟩ gs hJ
    refine AW.norm (by simp only [anys, upds, offs, List.set_cons_zero, List.set_cons_succ]; rfl) (by (try simp only [anys, upds, offs, List.set_cons_zero, List.set_cons_succ]); (try rfl)) ?_
    refine AW.seq ?_
    refine AW.region ?_
    refine AL.r (rd_bin rfl rfl rfl (fun _ => rfl)) ?_
    refine AL.nil ?_
    change AW _ _ _ _ _
    refine AW.seq ?_
    refine AW.cd rfl (fun h78 => ?_) (fun h78 => ?_)
    ·skip
     refine AW.skip ?_
     change AW _ _ _ _ _
     refine AW.seq ?_
     refine AW.block ?_
     refine AW.seq ?_
     refine AW.region ?_
     refine AL.r (rd_iaddr_sl rfl el_45 rfl rfl rfl (get_mapA (by omega)) rfl) ?_
     refine AL.r (rd_loadN_ep rfl ag_44 rfl (Nat.le_of_ble_eq_true rfl) rfl) ?_
     refine AL.op rfl (AOpB.op (op_alloc 6 rfl ze_44 rfl ?_))
     refine AL.n ?_
     refine AL.op rfl (op_store_ rfl rfl rfl rfl rfl sz_44 ?_)
     refine AL.n ?_
     refine AL.nil ?_
     change AW _ _ _ _ _
     refine AW.region ?_
     have l3 := tagP_len f (o.drops[k]'(by omega))
     have l4 := po12_len (f := f) hl k
     refine AL.rm ?_
     refine AL.rm ?_
     refine AL.r (rd_loadN_bx rfl ag_44 rfl rfl (Nat.le_of_ble_eq_true rfl) rfl) ?_
     refine AL.op rfl (AOpB.op (op_call (ptag_n f hf (o.drops[k]'(by omega)) (hw.drops _ (List.getElem_mem _)).1 (hw.drops _ (List.getElem_mem _)).2) rfl (by kernel_rfl) rfl (none) ?_))
     rintro r rfl
     refine AL.n ?_
     refine AL.op rfl (op_append rfl ap_83 rfl rfl (src_s rfl) (by simp only [byA_len]; omega) (by simp only [byA_len]; omega) ?_)
     refine AL.n ?_
     refine AL.ra ?_
     refine AL.nil ?_
     change AW _ _ _ _ _
     refine AW.region ?_
     refine AL.r (rd_arith_add rfl rfl rfl (by first | exact IntWalk.i64_in _ (by omega) | rfl)) ?_
     refine AL.rm ?_
     refine AL.nil ?_
     refine ⟨⟨k + 1, gL + 1⟩, ?_, by first | omega | (simp only []; omega), ?_, ?_⟩
     ·show k + 1 ≤ o.drops.length; omega
     ·simp only [anys, upds, offs, List.set_cons_zero, List.set_cons_succ]; repeat (first | exact Wk.nil | refine Wk.same ?_ | refine Wk.any ?_)
     ·simp only [anys, upds, offs, List.set_cons_zero, List.set_cons_succ]; repeat (first | exact Sk.nil _ | refine Sk.same _ ?_ | refine Sk.scr _ (by decide) ?_ | refine Sk.eq _ (by first | rfl | exact po12_row (by omega)) ?_)
    ·skip
     refine AW.exit ?_
     change AW _ _ _ _ _
     refine AW.seq ?_
     refine AW.region ?_
     have l4 := po12_len (f := f) hl k
     refine AL.rm ?_
     refine AL.rm ?_
     refine AL.op rfl (op_appendM rfl ap_83 rfl rfl (src_ow rfl rfl) (by simp only [byA_len]; omega) (by simp only [byA_len]; omega) ?_)
     refine AL.n ?_
     refine AL.settle 89 rfl rfl (by first | rfl | exact cont_owM _ _ _ _) ?_
     refine AL.no ?_
     refine AL.ra ?_
     refine AL.nil ?_
     change AW _ _ _ _ _
     refine AW.ret ?_
     change ResA _ _ _ _ _
     refine res1 rfl (ResV.tmp rfl) rfl ?_
     obtain rfl : k = o.drops.length := (by omega)
     rw [if_pos hF]; rfl
  ·skip
   refine AL.n ?_
   refine AL.rf ?_
   refine AL.rf ?_
   refine AL.r (rd_pick_f rfl rfl rfl) ?_
   refine AL.nil ?_
   change AW _ _ _ _ _
   refine AW.cond_f rfl ?_
   refine AW.skip ?_
   change AW _ _ _ _ _
   refine AW.seq ?_
   refine AW.region ?_
   have hF : okF f = true := (by unfold okF; grind)
   refine AL.rm ?_
   refine AL.r (rd_faddr_bx rfl fo_47_0 rfl rfl ⟨_, _, rfl⟩) ?_
   refine AL.r (rd_loadN_bx rfl ag_44 rfl rfl (Nat.le_of_ble_eq_true rfl) rfl) ?_
   refine AL.op rfl (AOpB.op (op_call (ptag_n f hf o.id hw.id1 hw.id2) rfl (by kernel_rfl) rfl (none) ?_))
   rintro r rfl
   refine AL.n ?_
   refine AL.ra ?_
   refine AL.nil ?_
   change AW _ _ _ _ _
   refine AW.seq ?_
   refine AW.region ?_
   refine AL.rm ?_
   refine AL.rm ?_
   refine AL.r (rd_faddr_bx rfl fo_47_1 rfl rfl ⟨_, _, rfl⟩) ?_
   refine AL.r (rd_loadN_bx rfl ag_44 rfl rfl (Nat.le_of_ble_eq_true rfl) rfl) ?_
   refine AL.op rfl (AOpB.op (op_call (ptag_c (po1 f o) f (by omega) hf o.schema hw.sc1 hw.sc2) rfl (by kernel_rfl) rfl (none) ?_))
   rintro r rfl
   refine AL.n ?_
   refine AL.ra ?_
   refine AL.nil ?_
   change AW _ _ _ _ _
   refine AW.seq ?_
   refine AW.region ?_
   refine AL.rm ?_
   refine AL.rm ?_
   refine AL.r (rd_faddr_bx rfl fo_47_2 rfl rfl ⟨_, _, rfl⟩) ?_
   refine AL.r (rd_load_bx rfl ag_2 rfl rfl rfl) ?_
   refine AL.op rfl (AOpB.op (op_call (pnum_c (po2 f o) f (by omega) hf o.time hw.time) rfl (by kernel_rfl) rfl (none) ?_))
   rintro r rfl
   refine AL.n ?_
   refine AL.ra ?_
   refine AL.nil ?_
   change AW _ _ _ _ _
   refine AW.seq ?_
   refine AW.region ?_
   refine AL.rm ?_
   refine AL.rm ?_
   refine AL.r (rd_faddr_bx rfl fo_47_3 rfl rfl ⟨_, _, rfl⟩) ?_
   refine AL.r (rd_load_bx rfl ag_9 rfl rfl rfl) ?_
   refine AL.op rfl (AOpB.op (op_call (ptext_c (po3 f o) f (by omega) hf o.cart (by have := hl.cart; omega)) rfl (by kernel_rfl) rfl (none) ?_))
   rintro r rfl
   refine AL.n ?_
   refine AL.ra ?_
   refine AL.nil ?_
   change AW _ _ _ _ _
   refine AW.seq ?_
   refine AW.region ?_
   refine AL.rm ?_
   refine AL.rm ?_
   refine AL.r (rd_faddr_bx rfl fo_47_4 rfl rfl ⟨_, _, rfl⟩) ?_
   refine AL.r (rd_load_bx rfl ag_3 rfl rfl rfl) ?_
   refine AL.op rfl (AOpB.op (op_call (pnum_c (po4 f o) f (by omega) hf o.kind hw.kind) rfl (by kernel_rfl) rfl (none) ?_))
   rintro r rfl
   refine AL.n ?_
   refine AL.ra ?_
   refine AL.nil ?_
   change AW _ _ _ _ _
   refine AW.seq ?_
   refine AW.region ?_
   refine AL.rm ?_
   refine AL.rm ?_
   refine AL.r (rd_faddr_bx rfl fo_47_5 rfl rfl ⟨_, _, rfl⟩) ?_
   refine AL.r (rd_load_bx rfl ag_9 rfl rfl rfl) ?_
   refine AL.op rfl (AOpB.op (op_call (ptext_c (po5 f o) f (by omega) hf o.item (by have := hl.item; omega)) rfl (by kernel_rfl) rfl (none) ?_))
   rintro r rfl
   refine AL.n ?_
   refine AL.ra ?_
   refine AL.nil ?_
   change AW _ _ _ _ _
   refine AW.seq ?_
   refine AW.region ?_
   refine AL.rm ?_
   refine AL.rm ?_
   refine AL.r (rd_faddr_bx rfl fo_47_6 rfl rfl ⟨_, _, rfl⟩) ?_
   refine AL.r (rd_loadN_bx rfl ag_27 rfl rfl (Nat.le_of_ble_eq_true rfl) rfl) ?_
   refine AL.op rfl (AOpB.op (op_call (pref_c (po6 f o) f (by omega) hf o.at_ hw.scope (by have := hl.group; omega) (by have := hl.name; omega)) rfl (by kernel_rfl) rfl (none) ?_))
   rintro r rfl
   refine AL.n ?_
   refine AL.ra ?_
   refine AL.nil ?_
   change AW _ _ _ _ _
   refine AW.seq ?_
   refine AW.region ?_
   refine AL.rm ?_
   refine AL.rm ?_
   refine AL.r (rd_faddr_bx rfl fo_47_7 rfl rfl ⟨_, _, rfl⟩) ?_
   refine AL.r (rd_load_bx rfl ag_2 rfl rfl rfl) ?_
   refine AL.op rfl (AOpB.op (op_call (pnum_c (po7 f o) f (by omega) hf o.delta hw.delta) rfl (by kernel_rfl) rfl (none) ?_))
   rintro r rfl
   refine AL.n ?_
   refine AL.ra ?_
   refine AL.nil ?_
   change AW _ _ _ _ _
   refine AW.seq ?_
   refine AW.region ?_
   refine AL.rm ?_
   refine AL.r (rd_faddr_bx rfl fo_47_8 rfl rfl ⟨_, _, rfl⟩) ?_
   refine AL.r (rd_load_bx rfl ag_4 rfl rfl rfl) ?_
   refine AL.op rfl (AOpB.op (op_call (pflag_c (po8 f o) (by omega) o.has) rfl (by kernel_rfl) rfl (none) ?_))
   rintro r rfl
   refine AL.n ?_
   refine AL.ra ?_
   refine AL.nil ?_
   change AW _ _ _ _ _
   refine AW.seq ?_
   refine AW.region ?_
   refine AL.rm ?_
   refine AL.rm ?_
   refine AL.r (rd_faddr_bx rfl fo_47_9 rfl rfl ⟨_, _, rfl⟩) ?_
   refine AL.r (rd_load_bx rfl ag_9 rfl rfl rfl) ?_
   refine AL.op rfl (AOpB.op (op_call (ptext_c (po9 f o) f (by omega) hf o.text (by have := hl.text; omega)) rfl (by kernel_rfl) rfl (none) ?_))
   rintro r rfl
   refine AL.n ?_
   refine AL.ra ?_
   refine AL.nil ?_
   change AW _ _ _ _ _
   refine AW.seq ?_
   refine AW.region ?_
   refine AL.rm ?_
   refine AL.rm ?_
   refine AL.r (rd_faddr_bx rfl fo_47_10 rfl rfl ⟨_, _, rfl⟩) ?_
   refine AL.r (rd_load_bx rfl ag_45 rfl rfl rfl) ?_
   refine AL.r (rd_len_sl rfl el_45 rfl) ?_
   refine AL.op rfl (AOpB.op (op_call (pnum_o (po10 f o) f (o.drops.length : Nat) (by omega) hf ⟨by omega, by omega⟩ hF) rfl (by kernel_rfl) rfl (some 5) ?_))
   rintro r rfl
   refine ⟨_, rfl, ?_⟩
   refine AL.n ?_
   refine AL.ra ?_
   refine AL.nil ?_
   change AW _ _ _ _ _
   refine AW.seq ?_
   refine AW.seq ?_
   refine AW.region ?_
   refine AL.r (rd_faddr_bx rfl fo_47_10 rfl rfl ⟨_, _, rfl⟩) ?_
   refine AL.r (rd_load_bx rfl ag_45 rfl rfl rfl) ?_
   refine AL.r (rd_len_sl rfl el_45 rfl) ?_
   refine AL.rm ?_
   refine AL.nil ?_
   change AW _ _ _ _ _
   refine AW.block ?_
   refine AW.loopM (ι := Nat × Nat) [10, 78, 79, 80, 81, 82, 83, 84, 85, 86] (fun ⟨k, gL⟩ => [(77, AI (k : Int)), (8, .ow 5 gL)]) [6, 7] (fun ⟨k, gL⟩ => [(5, ⟨gL, .own 5 1 (byA (po12 f o k))⟩)]) (fun ⟨k, gL⟩ => k ≤ o.drops.length) (fun ⟨k, gL⟩ => o.drops.length - k) (0, 1) (Nat.zero_le _) (by simp only [anys, upds, offs, List.set_cons_zero, List.set_cons_succ]; repeat (first | exact Wk.nil | refine Wk.same ?_ | refine Wk.any ?_)) (by simp only [anys, upds, offs, List.set_cons_zero, List.set_cons_succ]; repeat (first | exact Sk.nil _ | refine Sk.same _ ?_ | refine Sk.scr _ (by decide) ?_ | refine Sk.eq _ (by rw [l12]; rfl) ?_)) ?_
   rintro ⟨k, gL⟩ gs hJ
   refine AW.norm (by simp only [anys, upds, offs, List.set_cons_zero, List.set_cons_succ]; rfl) (by (try simp only [anys, upds, offs, List.set_cons_zero, List.set_cons_succ]); (try rfl)) ?_
   refine AW.seq ?_
   refine AW.region ?_
   refine AL.r (rd_bin rfl rfl rfl (fun _ => rfl)) ?_
   refine AL.nil ?_
   change AW _ _ _ _ _
   refine AW.seq ?_
   refine AW.cd rfl (fun h78 => ?_) (fun h78 => ?_)
   ·skip
    refine AW.skip ?_
    change AW _ _ _ _ _
    refine AW.seq ?_
    refine AW.block ?_
    refine AW.seq ?_
    refine AW.region ?_
    refine AL.r (rd_iaddr_sl rfl el_45 rfl rfl rfl (get_mapA (by omega)) rfl) ?_
    refine AL.r (rd_loadN_ep rfl ag_44 rfl (Nat.le_of_ble_eq_true rfl) rfl) ?_
    refine AL.op rfl (AOpB.op (op_alloc 6 rfl ze_44 rfl ?_))
    refine AL.n ?_
    refine AL.op rfl (op_store_ rfl rfl rfl rfl rfl sz_44 ?_)
    refine AL.n ?_
    refine AL.nil ?_
    change AW _ _ _ _ _
    refine AW.region ?_
    have l3 := tagP_len f (o.drops[k]'(by omega))
    have l4 := po12_len (f := f) hl k
    refine AL.rm ?_
    refine AL.rm ?_
    refine AL.r (rd_loadN_bx rfl ag_44 rfl rfl (Nat.le_of_ble_eq_true rfl) rfl) ?_
    refine AL.op rfl (AOpB.op (op_call (ptag_n f hf (o.drops[k]'(by omega)) (hw.drops _ (List.getElem_mem _)).1 (hw.drops _ (List.getElem_mem _)).2) rfl (by kernel_rfl) rfl (none) ?_))
    rintro r rfl
    refine AL.n ?_
    refine AL.op rfl (op_append rfl ap_83 rfl rfl (src_s rfl) (by simp only [byA_len]; omega) (by simp only [byA_len]; omega) ?_)
    refine AL.n ?_
    refine AL.ra ?_
    refine AL.nil ?_
    change AW _ _ _ _ _
    refine AW.region ?_
    refine AL.r (rd_arith_add rfl rfl rfl (by first | exact IntWalk.i64_in _ (by omega) | rfl)) ?_
    refine AL.rm ?_
    refine AL.nil ?_
    refine ⟨⟨k + 1, gL + 1⟩, ?_, by first | omega | (simp only []; omega), ?_, ?_⟩
    ·show k + 1 ≤ o.drops.length; omega
    ·simp only [anys, upds, offs, List.set_cons_zero, List.set_cons_succ]; repeat (first | exact Wk.nil | refine Wk.same ?_ | refine Wk.any ?_)
    ·simp only [anys, upds, offs, List.set_cons_zero, List.set_cons_succ]; repeat (first | exact Sk.nil _ | refine Sk.same _ ?_ | refine Sk.scr _ (by decide) ?_ | refine Sk.eq _ (by first | rfl | exact po12_row (by omega)) ?_)
   ·skip
    refine AW.exit ?_
    change AW _ _ _ _ _
    refine AW.seq ?_
    refine AW.region ?_
    have l4 := po12_len (f := f) hl k
    refine AL.rm ?_
    refine AL.rm ?_
    refine AL.op rfl (op_appendM rfl ap_83 rfl rfl (src_ow rfl rfl) (by simp only [byA_len]; omega) (by simp only [byA_len]; omega) ?_)
    refine AL.n ?_
    refine AL.settle 89 rfl rfl (by first | rfl | exact cont_owM _ _ _ _) ?_
    refine AL.no ?_
    refine AL.ra ?_
    refine AL.nil ?_
    change AW _ _ _ _ _
    refine AW.ret ?_
    change ResA _ _ _ _ _
    refine res1 rfl (ResV.tmp rfl) rfl ?_
    obtain rfl : k = o.drops.length := (by omega)
    rw [if_pos hF]; rfl
end Go.Proofs.Ytfjnkhanndkpfaa
