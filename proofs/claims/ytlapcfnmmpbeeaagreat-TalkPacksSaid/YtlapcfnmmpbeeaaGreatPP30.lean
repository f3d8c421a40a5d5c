/- Texts of the proof of talkPacks_holds, put together by a program: ThA OgB OgC. -/
import Derived.Test.YtlapcfnmmpbeeaaGreatPP29
set_option linter.unusedSimpArgs false
set_option linter.unusedVariables false
namespace Go.Proofs.YtlapcfnmmpbeeaaGreat
set_option maxRecDepth 100000
set_option maxRecDepth 100000
open Go.RowKit
structure VecD where
  a : Int
  b : Int
  c : Int
  d : Int
  e : Int
  f : Int
def vec0 : VecD := ⟨0, 0, 0, 0, 0, 0⟩
structure ThingD where
  kind : Int
  n : Int
  s : Bytes
  f : Bool
  t : TagD
  v : VecD
  r : RefD
  most : Int
def ThingD.cs (x : ThingD) : List AV := [AI x.kind, AI x.n, AS x.s, AB x.f, AI x.t.rep, AI x.t.n, AI x.v.a, AI x.v.b, AI x.v.c, AI x.v.d, AI x.v.e, AI x.v.f, AI x.r.scope, AS x.r.group, AS x.r.name, AI x.most]
abbrev ThingD.av (x : ThingD) : AV := .ag x.cs
def out8 (x : ThingD) : ThingD := ⟨x.kind, 0, [], false, ⟨0, 0⟩, vec0, ⟨0, [], []⟩, x.most⟩
def gText (b : List UInt8) (at_ f most : Int) : Bytes × Int × Bool := if ¬ (getN b at_ f).2.2 = 0 ∨ (getN b at_ f).1 < 0 ∨ most < (getN b at_ f).1 ∨ (b.length : Int) - (getN b at_ f).2.1 < (getN b at_ f).1 then ([], 0, false) else ((b.take ((getN b at_ f).2.1 + (getN b at_ f).1).toNat).drop (getN b at_ f).2.1.toNat, (getN b at_ f).2.1 + (getN b at_ f).1, true)
def rd8 (b : List UInt8) (at_ f : Int) (x : ThingD) : ThingD × Int × Bool :=
  if x.kind = 0 ∨ x.kind = 6 then (if ¬ (getN b at_ f).2.2 = 0 ∨ (x.kind = 6 ∧ ((getN b at_ f).1 < 0 ∨ x.most < (getN b at_ f).1)) then (out8 x, 0, false) else ({ out8 x with n := (getN b at_ f).1 }, (getN b at_ f).2.1, true))
  else if x.kind = 1 then ({ out8 x with s := (gText b at_ f x.most).1 }, (gText b at_ f x.most).2.1, (gText b at_ f x.most).2.2)
  else if x.kind = 2 then (if (b.length : Int) ≤ at_ ∨ 1 < (b.getD at_.toNat 0).toNat then (out8 x, 0, false) else ({ out8 x with f := (b.getD at_.toNat 0).toNat == 1 }, at_ + 1, true))
  else if x.kind = 3 then (if ¬ (getN b at_ f).2.2 = 0 ∨ ¬ (getN b (getN b at_ f).2.1 f).2.2 = 0 then (out8 x, 0, false) else ({ out8 x with t := ⟨(getN b at_ f).1, (getN b (getN b at_ f).2.1 f).1⟩ }, (getN b (getN b at_ f).2.1 f).2.1, true))
  else if x.kind = 5 then (if ¬ (getN b at_ f).2.2 = 0 ∨ (gText b (getN b at_ f).2.1 f 12).2.2 = false ∨ (gText b (gText b (getN b at_ f).2.1 f 12).2.1 f 12).2.2 = false then (out8 x, 0, false) else ({ out8 x with r := ⟨(getN b at_ f).1, (gText b (getN b at_ f).2.1 f 12).1, (gText b (gText b (getN b at_ f).2.1 f 12).2.1 f 12).1⟩ }, (gText b (gText b (getN b at_ f).2.1 f 12).2.1 f 12).2.1, true))
  else (out8 x, 0, false)
section
variable (b : List UInt8) (f : Int) (hb : b.length ≤ 1099511627776)
include hb
end
set_option maxRecDepth 100000
structure OpD.Wf (o : OpD) : Prop where
  id1 : i64R o.id.rep
  id2 : i64R o.id.n
  sc1 : i64R o.schema.rep
  sc2 : i64R o.schema.n
  time : i64R o.time
  kind : i64R o.kind
  scope : i64R o.at_.scope
  delta : i64R o.delta
  drops : ∀ t ∈ o.drops, i64R t.rep ∧ i64R t.n
structure OpD.Light (o : OpD) : Prop where
  cart : o.cart.length ≤ 200
  item : o.item.length ≤ 200
  group : o.at_.group.length ≤ 200
  name : o.at_.name.length ≤ 200
  text : o.text.length ≤ 200
  drops : o.drops.length ≤ 200
theorem heavyO_light {o : OpD} (h : heavyO o = false) : o.Light := by
  unfold heavyO at h
  simp only [Bool.or_eq_false_iff, decide_eq_false_iff_not] at h
  exact ⟨by omega, by omega, by omega, by omega, by omega, by omega⟩
def po1 (f : Int) (o : OpD) : List UInt8 := tagP f o.id
def po2 (f : Int) (o : OpD) : List UInt8 := po1 f o ++ tagP f o.schema
def po3 (f : Int) (o : OpD) : List UInt8 := po2 f o ++ putN f o.time
def po4 (f : Int) (o : OpD) : List UInt8 := po3 f o ++ textP f o.cart
def po5 (f : Int) (o : OpD) : List UInt8 := po4 f o ++ putN f o.kind
def po6 (f : Int) (o : OpD) : List UInt8 := po5 f o ++ textP f o.item
def po7 (f : Int) (o : OpD) : List UInt8 := po6 f o ++ refP f o.at_
def po8 (f : Int) (o : OpD) : List UInt8 := po7 f o ++ putN f o.delta
def po9 (f : Int) (o : OpD) : List UInt8 := po8 f o ++ flagB o.has
def po10 (f : Int) (o : OpD) : List UInt8 := po9 f o ++ textP f o.text
def po11 (f : Int) (o : OpD) : List UInt8 := po10 f o ++ putN f (o.drops.length : Nat)
def po12 (f : Int) (o : OpD) (k : Nat) : List UInt8 := po11 f o ++ (o.drops.take k).flatMap (tagP f)
def putO (f : Int) (o : OpD) : List UInt8 := po12 f o o.drops.length
theorem po12_len {f : Int} {o : OpD} (h : o.Light) (k : Nat) : (po12 f o k).length ≤ 2000 + 20 * k := by
  have a1 := tagP_len f o.id; have a2 := tagP_len f o.schema; have a3 := putN_len f o.time; have a4 := textP_len f o.cart; have a5 := putN_len f o.kind; have a6 := textP_len f o.item
  have a7 := refP_len f o.at_; have a8 := putN_len f o.delta; have a10 := textP_len f o.text; have a11 := putN_len f (o.drops.length : Nat)
  have h1 := h.cart; have h2 := h.item; have h3 := h.group; have h4 := h.name; have h5 := h.text
  have hd : ∀ l : List TagD, (l.flatMap (tagP f)).length ≤ 20 * l.length := fun l => by
    induction l with
    | nil => simp
    | cons t l ih => have := tagP_len f t; simp only [List.flatMap_cons, List.length_append, List.length_cons]; omega
  have := hd (o.drops.take k)
  have ht : (o.drops.take k).length ≤ k := by rw [List.length_take]; omega
  unfold po12 po11 po10 po9 po8 po7 po6 po5 po4 po3 po2 po1 flagB
  simp only [List.length_append, List.length_cons, List.length_nil]
  omega
theorem ptag_n (f : Int) (hf : i64R f) (t : TagD) (h1 : i64R t.rep) (h2 : i64R t.n) : AC Tryz.prog 47 [.sl (byA []), .sc (.int .i64 f), t.av] (fun r => r = .s (.sl (byA (tagP f t)))) := by
  have := ptag_c [] f (by simp) hf t h1 h2
  rwa [List.nil_append] at this
theorem po12_row {f : Int} {o : OpD} {k g T : Nat} (hk : k < o.drops.length) : TK.mk g (.own T 1 (byA (po12 f o k ++ tagP f o.drops[k]))) = TK.mk g (.own T 1 (byA (po12 f o (k + 1)))) := by
  have : po12 f o (k + 1) = po12 f o k ++ tagP f o.drops[k] := by
    unfold po12
    rw [← List.take_append_getElem hk, List.flatMap_append]; simp
  rw [this]
set_option maxHeartbeats 1000000 in
theorem oput_c (b : List UInt8) (f : Int) (o : OpD) (hb : b.length ≤ 1000000) (hf : i64R f) (hw : o.Wf) (hl : o.Light) : AC Tryz.prog 51 [.sl (byA b), .sc (.int .i64 f), o.av] (fun r => r = .s (.sl (byA (b ++ if okF f then putO f o else [])))) := by
  have hd := hl.drops
  have h12 := po12_len (f := f) hl o.drops.length
  have h0 := po12_len (f := f) hl 0
  have l12 : po12 f o 0 = po11 f o := by unfold po12; simp
  rw [l12] at h0
  have e : (po11 f o).length ≤ 2000 := by omega
  have b10 : (po10 f o).length ≤ 2000 := by unfold po11 at e; rw [List.length_append] at e; omega
  have b9 : (po9 f o).length ≤ 2000 := by unfold po10 at b10; rw [List.length_append] at b10; omega
  have b8 : (po8 f o).length ≤ 2000 := by unfold po9 at b9; rw [List.length_append] at b9; omega
  have b7 : (po7 f o).length ≤ 2000 := by unfold po8 at b8; rw [List.length_append] at b8; omega
  have b6 : (po6 f o).length ≤ 2000 := by unfold po7 at b7; rw [List.length_append] at b7; omega
  have b5 : (po5 f o).length ≤ 2000 := by unfold po6 at b6; rw [List.length_append] at b6; omega
  have b4 : (po4 f o).length ≤ 2000 := by unfold po5 at b5; rw [List.length_append] at b5; omega
  have b3 : (po3 f o).length ≤ 2000 := by unfold po4 at b4; rw [List.length_append] at b4; omega
  have b2 : (po2 f o).length ≤ 2000 := by unfold po3 at b3; rw [List.length_append] at b3; omega
  have b1 : (po1 f o).length ≤ 2000 := by unfold po2 at b2; rw [List.length_append] at b2; omega
  have hb12 : ∀ k, (byA (po12 f o k)).length = (po12 f o k).length := fun k => byA_len _
  have hbb := byA_len b
  change AC _ _ [.sl (byA b), .sc (.int .i64 f), .ag [AI o.id.rep, AI o.id.n, AI o.schema.rep, AI o.schema.n, AI o.time, AS o.cart, AI o.kind, AS o.item, AI o.at_.scope, AS o.at_.group, AS o.at_.name, AI o.delta, AB o.has, AS o.text, .sl (o.drops.map TagD.cs)]] _; refine AC.of' 87 9 Tryz.func51 rfl ?_; change AW _ _ _ _ [TK.mk 0 .off, TK.mk 0 .off, TK.mk 0 .off, TK.mk 0 .off, TK.mk 0 .off, TK.mk 0 .off, TK.mk 0 .off, TK.mk 0 .off, TK.mk 0 .off]; refine AW.seq (AW.region (AL.op rfl (AOpB.op (op_box 0 rfl rfl rfl rfl rfl ?_)))); refine AL.n ?_; refine AL.ra ?_; refine AL.nil (AW.seq (AW.region (AL.rm ?_))); refine AL.op rfl (op_append0M 1 rfl ap_52 rfl rfl (src_s rfl) (by rw [hbb]; omega) (by rw [hbb]; omega) ?_); refine AL.n ?_; refine AL.ra ?_; refine AL.nil (AW.seq (AW.seq (AW.region ?_)))
  refine AL.rm ?_; refine AL.r qb ?_; refine AL.rm ?_; refine AL.fk (d := 15) rfl (fun h15 => ?_) (fun h15 => ?_)
  ·refine AL.n ?_; refine AL.ro (rd_move rfl rfl) ?_; refine AL.ro qb ?_; refine AL.r qt ?_; refine AL.nil (AW.cd rfl (fun h18 => ?_) (fun h18 => ?_))
   ·refine AW.seq (AW.region (AL.rm ?_)); refine AL.settle 19 rfl rfl (by first | rfl | exact cont_owM _ _ _ _) ?_; refine AL.no ?_; refine AL.ra ?_; refine AL.nil (AW.ret (r1t ?_)); rw [if_neg (by unfold okF; grind), List.append_nil]
   ·refine AW.skip (AW.seq (AW.region ?_))
    have hF : okF f = true := (by unfold okF; grind)
    refine AL.rm ?_; refine AL.r (qa fo_48_0) ?_; refine AL.r (qN ag_34) ?_; refine AL.op rfl (AOpB.op (op_call (ptag_n f hf o.id hw.id1 hw.id2) rfl (by kernel_rfl) rfl (none) ?_)); rintro r rfl; refine AL.n ?_; refine AL.ra ?_; refine AL.nil (AW.seq (AW.region ?_)); (iterate 2 refine AL.rm ?_); refine AL.r (qa fo_48_1) ?_; refine AL.r (qN ag_34) ?_; refine AL.op rfl (AOpB.op (op_call (ptag_c (po1 f o) f (by omega) hf o.schema hw.sc1 hw.sc2) rfl (by kernel_rfl) rfl (none) ?_)); rintro r rfl; refine AL.n ?_; refine AL.ra ?_; refine AL.nil (AW.seq (AW.region ?_)); (iterate 2 refine AL.rm ?_); refine AL.r (qa fo_48_2) ?_
    refine AL.r (ql ag_2) ?_; refine AL.op rfl (AOpB.op (op_call (pnum_c (po2 f o) f (by omega) hf o.time hw.time) rfl (by kernel_rfl) rfl (none) ?_)); rintro r rfl; refine AL.n ?_; refine AL.ra ?_; refine AL.nil (AW.seq (AW.region ?_)); (iterate 2 refine AL.rm ?_); refine AL.r (qa fo_48_3) ?_; refine AL.r (ql ag_9) ?_; refine AL.op rfl (AOpB.op (op_call (ptext_c (po3 f o) f (by omega) hf o.cart (by have := hl.cart; omega)) rfl (by kernel_rfl) rfl (none) ?_)); rintro r rfl; refine AL.n ?_; refine AL.ra ?_; refine AL.nil (AW.seq (AW.region ?_)); (iterate 2 refine AL.rm ?_); refine AL.r (qa fo_48_4) ?_; refine AL.r (ql ag_3) ?_; refine AL.op rfl (AOpB.op (op_call (pnum_c (po4 f o) f (by omega) hf o.kind hw.kind) rfl (by kernel_rfl) rfl (none) ?_))
    rintro r rfl; refine AL.n ?_; refine AL.ra ?_; refine AL.nil (AW.seq (AW.region ?_)); (iterate 2 refine AL.rm ?_); refine AL.r (qa fo_48_5) ?_; refine AL.r (ql ag_9) ?_; refine AL.op rfl (AOpB.op (op_call (ptext_c (po5 f o) f (by omega) hf o.item (by have := hl.item; omega)) rfl (by kernel_rfl) rfl (none) ?_)); rintro r rfl; refine AL.n ?_; refine AL.ra ?_; refine AL.nil (AW.seq (AW.region ?_)); (iterate 2 refine AL.rm ?_); refine AL.r (qa fo_48_6) ?_; refine AL.r (qN ag_36) ?_; refine AL.op rfl (AOpB.op (op_call (pref_c (po6 f o) f (by omega) hf o.at_ hw.scope (by have := hl.group; omega) (by have := hl.name; omega)) rfl (by kernel_rfl) rfl (none) ?_)); rintro r rfl
    refine AL.n ?_; refine AL.ra ?_; refine AL.nil (AW.seq (AW.region ?_)); (iterate 2 refine AL.rm ?_); refine AL.r (qa fo_48_7) ?_; refine AL.r (ql ag_2) ?_; refine AL.op rfl (AOpB.op (op_call (pnum_c (po7 f o) f (by omega) hf o.delta hw.delta) rfl (by kernel_rfl) rfl (none) ?_)); rintro r rfl; refine AL.n ?_; refine AL.ra ?_; refine AL.nil (AW.seq (AW.region (AL.rm ?_))); refine AL.r (qa fo_48_8) ?_; refine AL.r (ql ag_4) ?_; refine AL.op rfl (AOpB.op (op_call (pflag_c (po8 f o) (by omega) o.has) rfl (by kernel_rfl) rfl (none) ?_)); rintro r rfl; refine AL.n ?_; refine AL.ra ?_; refine AL.nil (AW.seq (AW.region ?_)); (iterate 2 refine AL.rm ?_)
    refine AL.r (qa fo_48_9) ?_; refine AL.r (ql ag_9) ?_; refine AL.op rfl (AOpB.op (op_call (ptext_c (po9 f o) f (by omega) hf o.text (by have := hl.text; omega)) rfl (by kernel_rfl) rfl (none) ?_)); rintro r rfl; refine AL.n ?_; refine AL.ra ?_; refine AL.nil (AW.seq (AW.region ?_)); (iterate 2 refine AL.rm ?_); refine AL.r (qa fo_48_10) ?_; refine AL.r (ql ag_24) ?_; refine AL.r (rd_len_sl rfl el_24 rfl) ?_; refine AL.op rfl (AOpB.op (op_call (pnum_o (po10 f o) f (o.drops.length : Nat) (by omega) hf ⟨by omega, by omega⟩ hF) rfl (by kernel_rfl) rfl (some 5) ?_)); rintro r rfl; refine ⟨_, rfl, ?_⟩; refine AL.n ?_; refine AL.ra ?_; refine AL.nil (AW.seq (AW.seq (AW.region (AL.r (qa fo_48_10) ?_))))
    refine AL.r (ql ag_24) ?_; refine AL.r (rd_len_sl rfl el_24 rfl) ?_; refine AL.rm ?_; refine AL.nil (AW.block (AW.loopM (ι := Nat × Nat) [10, 78, 79, 80, 81, 82, 83, 84, 85, 86] (fun ⟨k, gL⟩ => [(77, AI (k : Int)), (8, .ow 5 gL)]) [6, 7] (fun ⟨k, gL⟩ => [(5, ⟨gL, .own 5 1 (byA (po12 f o k))⟩)]) (fun ⟨k, gL⟩ => k ≤ o.drops.length) (fun ⟨k, gL⟩ => o.drops.length - k) (0, 1) (Nat.zero_le _) wk (by simp only [anys, upds, offs, List.set_cons_zero, List.set_cons_succ]; repeat (first | exact Sk.nil _ | refine Sk.same _ ?_ | refine Sk.scr _ (by decide) ?_ | refine Sk.eq _ (by rw [l12]; rfl) ?_)) ?_)); rintro ⟨k, gL⟩ gs hJ; refine AW.nm ?_
    refine AW.seq (AW.region (AL.r qb ?_)); refine AL.nil (AW.seq (AW.cd rfl (fun h78 => ?_) (fun h78 => ?_)))
    ·refine AW.skip (AW.seq (AW.block (AW.seq (AW.region (AL.r (rd_iaddr_sl rfl el_24 rfl rfl rfl (get_mapA (by omega)) rfl) ?_))))); refine AL.r (rd_loadN_ep rfl ag_34 rfl (Nat.le_of_ble_eq_true rfl) rfl) ?_; refine AL.op rfl (AOpB.op (op_alloc 6 rfl ze_34 rfl ?_)); refine AL.n ?_; refine AL.op rfl (op_store_ rfl rfl rfl rfl rfl sz_34 ?_); refine AL.n ?_; refine AL.nil (AW.region ?_)
     have l3 := tagP_len f (o.drops[k]'(by omega))
     have l4 := po12_len (f := f) hl k
     (iterate 2 refine AL.rm ?_); refine AL.r (qN ag_34) ?_; refine AL.op rfl (AOpB.op (op_call (ptag_n f hf (o.drops[k]'(by omega)) (hw.drops _ (List.getElem_mem _)).1 (hw.drops _ (List.getElem_mem _)).2) rfl (by kernel_rfl) rfl (none) ?_)); rintro r rfl; refine AL.n ?_; refine AL.op rfl (op_append rfl ap_52 rfl rfl (src_s rfl) (by simp only [byA_len]; omega) (by simp only [byA_len]; omega) ?_); refine AL.n ?_; refine AL.ra ?_; refine AL.nil ?_; change AW _ _ _ _ _; refine AW.region ?_; refine AL.r (rd_arith_add rfl rfl rfl (by first | exact IntWalk.i64_in _ (by omega) | rfl)) ?_; refine AL.rm ?_; refine AL.nil ?_; refine ⟨⟨k + 1, gL + 1⟩, ?_, by first | omega | (simp only []; omega), ?_, ?_⟩
     ·show k + 1 ≤ o.drops.length; omega
     ·exact wk
     ·simp only [anys, upds, offs, List.set_cons_zero, List.set_cons_succ]; repeat (first | exact Sk.nil _ | refine Sk.same _ ?_ | refine Sk.scr _ (by decide) ?_ | refine Sk.eq _ (by first | rfl | exact po12_row (by omega)) ?_)
    ·refine AW.exit ?_; change AW _ _ _ _ _; refine AW.seq (AW.region ?_)
     have l4 := po12_len (f := f) hl k
     (iterate 2 refine AL.rm ?_); refine AL.op rfl (op_appendM rfl ap_52 rfl rfl (src_ow rfl rfl) (by simp only [byA_len]; omega) (by simp only [byA_len]; omega) ?_); refine AL.n ?_; refine AL.settle 89 rfl rfl (by first | rfl | exact cont_owM _ _ _ _) ?_; refine AL.no ?_; refine AL.ra ?_; refine AL.nil (AW.ret (r1t ?_)); obtain rfl : k = o.drops.length := (by omega); rw [if_pos hF]; rfl
  ·refine AL.n ?_; (iterate 2 refine AL.rf ?_); refine AL.r qf ?_; refine AL.nil (AW.cond_f rfl (AW.skip (AW.seq (AW.region ?_))))
   have hF : okF f = true := (by unfold okF; grind)
   refine AL.rm ?_; refine AL.r (qa fo_48_0) ?_; refine AL.r (qN ag_34) ?_; refine AL.op rfl (AOpB.op (op_call (ptag_n f hf o.id hw.id1 hw.id2) rfl (by kernel_rfl) rfl (none) ?_)); rintro r rfl; refine AL.n ?_; refine AL.ra ?_; refine AL.nil (AW.seq (AW.region ?_)); (iterate 2 refine AL.rm ?_); refine AL.r (qa fo_48_1) ?_; refine AL.r (qN ag_34) ?_; refine AL.op rfl (AOpB.op (op_call (ptag_c (po1 f o) f (by omega) hf o.schema hw.sc1 hw.sc2) rfl (by kernel_rfl) rfl (none) ?_)); rintro r rfl; refine AL.n ?_; refine AL.ra ?_; refine AL.nil (AW.seq (AW.region ?_)); (iterate 2 refine AL.rm ?_); refine AL.r (qa fo_48_2) ?_
   refine AL.r (ql ag_2) ?_; refine AL.op rfl (AOpB.op (op_call (pnum_c (po2 f o) f (by omega) hf o.time hw.time) rfl (by kernel_rfl) rfl (none) ?_)); rintro r rfl; refine AL.n ?_; refine AL.ra ?_; refine AL.nil (AW.seq (AW.region ?_)); (iterate 2 refine AL.rm ?_); refine AL.r (qa fo_48_3) ?_; refine AL.r (ql ag_9) ?_; refine AL.op rfl (AOpB.op (op_call (ptext_c (po3 f o) f (by omega) hf o.cart (by have := hl.cart; omega)) rfl (by kernel_rfl) rfl (none) ?_)); rintro r rfl; refine AL.n ?_; refine AL.ra ?_; refine AL.nil (AW.seq (AW.region ?_)); (iterate 2 refine AL.rm ?_); refine AL.r (qa fo_48_4) ?_; refine AL.r (ql ag_3) ?_; refine AL.op rfl (AOpB.op (op_call (pnum_c (po4 f o) f (by omega) hf o.kind hw.kind) rfl (by kernel_rfl) rfl (none) ?_))
   rintro r rfl; refine AL.n ?_; refine AL.ra ?_; refine AL.nil (AW.seq (AW.region ?_)); (iterate 2 refine AL.rm ?_); refine AL.r (qa fo_48_5) ?_; refine AL.r (ql ag_9) ?_; refine AL.op rfl (AOpB.op (op_call (ptext_c (po5 f o) f (by omega) hf o.item (by have := hl.item; omega)) rfl (by kernel_rfl) rfl (none) ?_)); rintro r rfl; refine AL.n ?_; refine AL.ra ?_; refine AL.nil (AW.seq (AW.region ?_)); (iterate 2 refine AL.rm ?_); refine AL.r (qa fo_48_6) ?_; refine AL.r (qN ag_36) ?_; refine AL.op rfl (AOpB.op (op_call (pref_c (po6 f o) f (by omega) hf o.at_ hw.scope (by have := hl.group; omega) (by have := hl.name; omega)) rfl (by kernel_rfl) rfl (none) ?_)); rintro r rfl
   refine AL.n ?_; refine AL.ra ?_; refine AL.nil (AW.seq (AW.region ?_)); (iterate 2 refine AL.rm ?_); refine AL.r (qa fo_48_7) ?_; refine AL.r (ql ag_2) ?_; refine AL.op rfl (AOpB.op (op_call (pnum_c (po7 f o) f (by omega) hf o.delta hw.delta) rfl (by kernel_rfl) rfl (none) ?_)); rintro r rfl; refine AL.n ?_; refine AL.ra ?_; refine AL.nil (AW.seq (AW.region (AL.rm ?_))); refine AL.r (qa fo_48_8) ?_; refine AL.r (ql ag_4) ?_; refine AL.op rfl (AOpB.op (op_call (pflag_c (po8 f o) (by omega) o.has) rfl (by kernel_rfl) rfl (none) ?_)); rintro r rfl; refine AL.n ?_; refine AL.ra ?_; refine AL.nil (AW.seq (AW.region ?_)); (iterate 2 refine AL.rm ?_)
   refine AL.r (qa fo_48_9) ?_; refine AL.r (ql ag_9) ?_; refine AL.op rfl (AOpB.op (op_call (ptext_c (po9 f o) f (by omega) hf o.text (by have := hl.text; omega)) rfl (by kernel_rfl) rfl (none) ?_)); rintro r rfl; refine AL.n ?_; refine AL.ra ?_; refine AL.nil (AW.seq (AW.region ?_)); (iterate 2 refine AL.rm ?_); refine AL.r (qa fo_48_10) ?_; refine AL.r (ql ag_24) ?_; refine AL.r (rd_len_sl rfl el_24 rfl) ?_; refine AL.op rfl (AOpB.op (op_call (pnum_o (po10 f o) f (o.drops.length : Nat) (by omega) hf ⟨by omega, by omega⟩ hF) rfl (by kernel_rfl) rfl (some 5) ?_)); rintro r rfl; refine ⟨_, rfl, ?_⟩; refine AL.n ?_; refine AL.ra ?_; refine AL.nil (AW.seq (AW.seq (AW.region (AL.r (qa fo_48_10) ?_))))
   refine AL.r (ql ag_24) ?_; refine AL.r (rd_len_sl rfl el_24 rfl) ?_; refine AL.rm ?_; refine AL.nil (AW.block (AW.loopM (ι := Nat × Nat) [10, 78, 79, 80, 81, 82, 83, 84, 85, 86] (fun ⟨k, gL⟩ => [(77, AI (k : Int)), (8, .ow 5 gL)]) [6, 7] (fun ⟨k, gL⟩ => [(5, ⟨gL, .own 5 1 (byA (po12 f o k))⟩)]) (fun ⟨k, gL⟩ => k ≤ o.drops.length) (fun ⟨k, gL⟩ => o.drops.length - k) (0, 1) (Nat.zero_le _) wk (by simp only [anys, upds, offs, List.set_cons_zero, List.set_cons_succ]; repeat (first | exact Sk.nil _ | refine Sk.same _ ?_ | refine Sk.scr _ (by decide) ?_ | refine Sk.eq _ (by rw [l12]; rfl) ?_)) ?_)); rintro ⟨k, gL⟩ gs hJ; refine AW.nm ?_
   refine AW.seq (AW.region (AL.r qb ?_)); refine AL.nil (AW.seq (AW.cd rfl (fun h78 => ?_) (fun h78 => ?_)))
   ·refine AW.skip (AW.seq (AW.block (AW.seq (AW.region (AL.r (rd_iaddr_sl rfl el_24 rfl rfl rfl (get_mapA (by omega)) rfl) ?_))))); refine AL.r (rd_loadN_ep rfl ag_34 rfl (Nat.le_of_ble_eq_true rfl) rfl) ?_; refine AL.op rfl (AOpB.op (op_alloc 6 rfl ze_34 rfl ?_)); refine AL.n ?_; refine AL.op rfl (op_store_ rfl rfl rfl rfl rfl sz_34 ?_); refine AL.n ?_; refine AL.nil (AW.region ?_)
    have l3 := tagP_len f (o.drops[k]'(by omega))
    have l4 := po12_len (f := f) hl k
    (iterate 2 refine AL.rm ?_); refine AL.r (qN ag_34) ?_; refine AL.op rfl (AOpB.op (op_call (ptag_n f hf (o.drops[k]'(by omega)) (hw.drops _ (List.getElem_mem _)).1 (hw.drops _ (List.getElem_mem _)).2) rfl (by kernel_rfl) rfl (none) ?_)); rintro r rfl; refine AL.n ?_; refine AL.op rfl (op_append rfl ap_52 rfl rfl (src_s rfl) (by simp only [byA_len]; omega) (by simp only [byA_len]; omega) ?_); refine AL.n ?_; refine AL.ra ?_; refine AL.nil ?_; change AW _ _ _ _ _; refine AW.region ?_; refine AL.r (rd_arith_add rfl rfl rfl (by first | exact IntWalk.i64_in _ (by omega) | rfl)) ?_; refine AL.rm ?_; refine AL.nil ?_; refine ⟨⟨k + 1, gL + 1⟩, ?_, by first | omega | (simp only []; omega), ?_, ?_⟩
    ·show k + 1 ≤ o.drops.length; omega
    ·exact wk
    ·simp only [anys, upds, offs, List.set_cons_zero, List.set_cons_succ]; repeat (first | exact Sk.nil _ | refine Sk.same _ ?_ | refine Sk.scr _ (by decide) ?_ | refine Sk.eq _ (by first | rfl | exact po12_row (by omega)) ?_)
   ·refine AW.exit ?_; change AW _ _ _ _ _; refine AW.seq (AW.region ?_)
    have l4 := po12_len (f := f) hl k
    (iterate 2 refine AL.rm ?_); refine AL.op rfl (op_appendM rfl ap_52 rfl rfl (src_ow rfl rfl) (by simp only [byA_len]; omega) (by simp only [byA_len]; omega) ?_); refine AL.n ?_; refine AL.settle 89 rfl rfl (by first | rfl | exact cont_owM _ _ _ _) ?_; refine AL.no ?_; refine AL.ra ?_; refine AL.nil (AW.ret (r1t ?_)); obtain rfl : k = o.drops.length := (by omega); rw [if_pos hF]; rfl
set_option maxRecDepth 100000
section
variable {r : RdrD} {f : Int} {pre suf : List UInt8}
theorem bad_tags (h : badP r = true) : ∀ n, badP (tagsP n r).2 = true
  | 0 => h
  | n + 1 => bad_tag (bad_tags h n)
theorem tags_at {ds : List TagD} (h : r.At f pre (ds.flatMap (tagP f) ++ suf)) (hd : ∀ t ∈ ds, i64R t.rep ∧ i64R t.n) : ∀ k, k ≤ ds.length → (tagsP k r).1 = ds.take k ∧ (tagsP k r).2.At f (pre ++ (ds.take k).flatMap (tagP f)) ((ds.drop k).flatMap (tagP f) ++ suf)
  | 0, _ => ⟨rfl, by simpa [tagsP] using h⟩
  | k + 1, hk => by
    obtain ⟨a, b⟩ := tags_at h hd k (by omega)
    rw [List.drop_eq_getElem_cons (by omega), List.flatMap_cons, List.append_assoc] at b
    obtain ⟨c, d⟩ := tag_at b (hd _ (List.getElem_mem _)).1 (hd _ (List.getElem_mem _)).2
    have e : ds.take (k + 1) = ds.take k ++ [ds[k]] := (List.take_append_getElem (by omega)).symm
    refine ⟨by rw [tagsP, a, c, e], ?_⟩; rw [e, List.flatMap_append]; rw [List.append_assoc] at d
    simpa [tagsP] using d
end
theorem right_read {o : OpD} (h : rightO o = true) : o.cart.length ≤ 12 ∧ o.item.length ≤ 12 ∧ (o.at_.group.length ≤ 12 ∧ o.at_.name.length ≤ 12) ∧ o.text.length ≤ 40 ∧ o.drops.length ≤ 60 := by
  rw [← right_same] at h
  unfold rightR plainB at h
  have hn := @nameB_len
  have hp := @placeB_len o.at_
  have hs := @placeB_s o.at_
  have e0 : ∀ l : Bytes, l.isEmpty = true → l.length ≤ 12 := fun l h => by rw [List.isEmpty_iff.1 h]; simp
  have hd : dropsB o = true → o.drops.length ≤ 60 := fun h => by
    unfold dropsB at h
    simp only [Bool.and_eq_true, decide_eq_true_eq] at h
    exact h.1
  have e1 : o.text.isEmpty = true → o.text.length ≤ 40 := fun h => by rw [List.isEmpty_iff.1 h]; simp
  have e2 : o.at_ = ⟨0, [], []⟩ → o.at_.group.length ≤ 12 ∧ o.at_.name.length ≤ 12 := fun h => by rw [h]; simp
  grind
end Go.Proofs.YtlapcfnmmpbeeaaGreat
