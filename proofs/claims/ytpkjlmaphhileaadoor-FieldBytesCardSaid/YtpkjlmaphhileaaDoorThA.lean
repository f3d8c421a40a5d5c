/- The reference's pen, walked over abstract states: what is got. Conditions: fewer than 2^40 bytes; no vectors. -/
import Derived.Test.YtpkjlmaphhileaaDoorPenC
namespace Go.Proofs.YtpkjlmaphhileaaDoor
set_option linter.unusedSimpArgs false
set_option linter.unusedVariables false
set_option maxRecDepth 100000
set_option maxRecDepth 100000
open Go.RowKit

structure VecD where
  a : Int
  b : Int
  c : Int
  d : Int
  e : Int
  f : Int
def VecD.cs (v : VecD) : List AV := [AI v.a, AI v.b, AI v.c, AI v.d, AI v.e, AI v.f]
def vec0 : VecD := ⟨0, 0, 0, 0, 0, 0⟩
structure ThingD where
  kind : Int
  n : Int
  s : Bytes
  f : Bool
  t : TagD
  v : VecD
  r : RefD
  most : Int
def ThingD.cs (x : ThingD) : List AV := [AI x.kind, AI x.n, AS x.s, AB x.f, AI x.t.rep, AI x.t.n, AI x.v.a, AI x.v.b, AI x.v.c, AI x.v.d, AI x.v.e, AI x.v.f, AI x.r.scope, AS x.r.group, AS x.r.name, AI x.most]
abbrev ThingD.av (x : ThingD) : AV := .ag x.cs
def out8 (x : ThingD) : ThingD := ⟨x.kind, 0, [], false, ⟨0, 0⟩, vec0, ⟨0, [], []⟩, x.most⟩
def gText (b : List UInt8) (at_ f most : Int) : Bytes × Int × Bool := if ¬ (getN b at_ f).2.2 = 0 ∨ (getN b at_ f).1 < 0 ∨ most < (getN b at_ f).1 ∨ (b.length : Int) - (getN b at_ f).2.1 < (getN b at_ f).1 then ([], 0, false) else ((b.take ((getN b at_ f).2.1 + (getN b at_ f).1).toNat).drop (getN b at_ f).2.1.toNat, (getN b at_ f).2.1 + (getN b at_ f).1, true)
def rd8 (b : List UInt8) (at_ f : Int) (x : ThingD) : ThingD × Int × Bool :=
  if x.kind = 0 ∨ x.kind = 6 then (if ¬ (getN b at_ f).2.2 = 0 ∨ (x.kind = 6 ∧ ((getN b at_ f).1 < 0 ∨ x.most < (getN b at_ f).1)) then (out8 x, 0, false) else ({ out8 x with n := (getN b at_ f).1 }, (getN b at_ f).2.1, true))
  else if x.kind = 1 then ({ out8 x with s := (gText b at_ f x.most).1 }, (gText b at_ f x.most).2.1, (gText b at_ f x.most).2.2)
  else if x.kind = 2 then (if (b.length : Int) ≤ at_ ∨ 1 < (b.getD at_.toNat 0).toNat then (out8 x, 0, false) else ({ out8 x with f := (b.getD at_.toNat 0).toNat == 1 }, at_ + 1, true))
  else if x.kind = 3 then (if ¬ (getN b at_ f).2.2 = 0 ∨ ¬ (getN b (getN b at_ f).2.1 f).2.2 = 0 then (out8 x, 0, false) else ({ out8 x with t := ⟨(getN b at_ f).1, (getN b (getN b at_ f).2.1 f).1⟩ }, (getN b (getN b at_ f).2.1 f).2.1, true))
  else if x.kind = 5 then (if ¬ (getN b at_ f).2.2 = 0 ∨ (gText b (getN b at_ f).2.1 f 12).2.2 = false ∨ (gText b (gText b (getN b at_ f).2.1 f 12).2.1 f 12).2.2 = false then (out8 x, 0, false) else ({ out8 x with r := ⟨(getN b at_ f).1, (gText b (getN b at_ f).2.1 f 12).1, (gText b (gText b (getN b at_ f).2.1 f 12).2.1 f 12).1⟩ }, (gText b (gText b (getN b at_ f).2.1 f 12).2.1 f 12).2.1, true))
  else (out8 x, 0, false)
theorem get_byD {l : List UInt8} {n : Nat} (h : n < l.length) : (byA l)[n]? = some [.sc (bv (l.getD n 0))] := get_byA (by rw [List.getD_eq_getElem?_getD, List.getElem?_eq_getElem h]; rfl)
section
variable (b : List UInt8) (f : Int) (hb : b.length ≤ 1099511627776)
include hb
theorem rgtext_c (at_ most : Int) : AC Tryd.prog 63 [.sl (byA b), .sc (.int .i64 at_), .sc (.int .i64 f), .sc (.int .i64 most)] (fun r => r = .s (.tu [AS (gText b at_ f most).1, AI (gText b at_ f most).2.1, AB (gText b at_ f most).2.2])) := by
  have hbb := byA_len b
  have hg : (getN b at_ f).2.2 = 0 → 0 ≤ at_ ∧ at_ < (getN b at_ f).2.1 ∧ (getN b at_ f).2.1 ≤ b.length ∧ i64R (getN b at_ f).1 := getN_ok
  refine AC.of' 47 0 Tryd.func63 rfl ?_
  change AW _ _ _ _ []
  refine AW.seq ?_
  refine AW.region ?_
  refine AL.ra ?_
  refine AL.ra ?_
  refine AL.ra ?_
  refine AL.nil ?_
  change AW _ _ _ _ _
  refine AW.seq ?_
  refine AW.region ?_
  refine AL.rm ?_
  refine AL.rm ?_
  refine AL.rm ?_
  refine AL.op rfl (AOpB.op (op_call (crget_c b at_ f (by omega)) rfl (by kernel_rfl) rfl (none) ?_))
  rintro r rfl
  refine AL.n ?_
  refine AL.rm ?_
  refine AL.r (rd_extract rfl rfl rfl) ?_
  refine AL.r (rd_extract rfl rfl rfl) ?_
  refine AL.r (rd_extract rfl rfl rfl) ?_
  refine AL.ra ?_
  refine AL.ra ?_
  refine AL.ra ?_
  refine AL.nil ?_
  change AW _ _ _ _ _
  refine AW.seq ?_
  refine AW.seq ?_
  refine AW.region ?_
  refine AL.rm ?_
  refine AL.r (rd_bin rfl rfl rfl (fun _ => rfl)) ?_
  refine AL.rm ?_
  refine AL.fk (d := 24) rfl (fun h24 => ?_) (fun h24 => ?_)
  ·skip
   refine AL.n ?_
   refine AL.rf ?_
   refine AL.rf ?_
   refine AL.r (rd_pick_t rfl rfl rfl) ?_
   refine AL.rm ?_
   refine AL.rf ?_
   refine AL.rf ?_
   refine AL.rf ?_
   refine AL.r (rd_pick_t rfl rfl rfl) ?_
   refine AL.rm ?_
   refine AL.rf ?_
   refine AL.rf ?_
   refine AL.rf ?_
   refine AL.rf ?_
   have hg1 := hg
   refine AL.rf ?_
   refine AL.rf ?_
   refine AL.r (rd_pick_t rfl rfl rfl) ?_
   refine AL.nil ?_
   change AW _ _ _ _ _
   refine AW.cond_t rfl ?_
   refine AW.seq ?_
   refine AW.region ?_
   refine AL.ra ?_
   refine AL.ra ?_
   refine AL.ra ?_
   refine AL.nil ?_
   change AW _ _ _ _ _
   refine AW.ret ?_
   change ResA _ _ _ _ _
   refine res3 rfl (ResV.tmp rfl) rfl (ResV.tmp rfl) rfl (ResV.tmp rfl) rfl ?_
   rw [gText, if_pos (by grind)]
  ·skip
   refine AL.n ?_
   refine AL.ro (rd_move rfl rfl) ?_
   refine AL.ro (rd_bin rfl rfl rfl (fun _ => rfl)) ?_
   refine AL.r (rd_pick_f rfl rfl rfl) ?_
   refine AL.rm ?_
   refine AL.fk (d := 28) rfl (fun h28 => ?_) (fun h28 => ?_)
   ·skip
    refine AL.n ?_
    refine AL.rf ?_
    refine AL.rf ?_
    refine AL.rf ?_
    refine AL.r (rd_pick_t rfl rfl rfl) ?_
    refine AL.rm ?_
    refine AL.rf ?_
    refine AL.rf ?_
    refine AL.rf ?_
    refine AL.rf ?_
    have hg1 := hg
    refine AL.rf ?_
    refine AL.rf ?_
    refine AL.r (rd_pick_t rfl rfl rfl) ?_
    refine AL.nil ?_
    change AW _ _ _ _ _
    refine AW.cond_t rfl ?_
    refine AW.seq ?_
    refine AW.region ?_
    refine AL.ra ?_
    refine AL.ra ?_
    refine AL.ra ?_
    refine AL.nil ?_
    change AW _ _ _ _ _
    refine AW.ret ?_
    change ResA _ _ _ _ _
    refine res3 rfl (ResV.tmp rfl) rfl (ResV.tmp rfl) rfl (ResV.tmp rfl) rfl ?_
    rw [gText, if_pos (by grind)]
   ·skip
    refine AL.n ?_
    refine AL.ro (rd_move rfl rfl) ?_
    refine AL.ro (rd_move rfl rfl) ?_
    refine AL.ro (rd_bin rfl rfl rfl (fun _ => rfl)) ?_
    refine AL.r (rd_pick_f rfl rfl rfl) ?_
    refine AL.rm ?_
    refine AL.fk (d := 33) rfl (fun h33 => ?_) (fun h33 => ?_)
    ·skip
     refine AL.n ?_
     refine AL.rf ?_
     refine AL.rf ?_
     refine AL.rf ?_
     refine AL.rf ?_
     have hg1 := hg
     refine AL.rf ?_
     refine AL.rf ?_
     refine AL.r (rd_pick_t rfl rfl rfl) ?_
     refine AL.nil ?_
     change AW _ _ _ _ _
     refine AW.cond_t rfl ?_
     refine AW.seq ?_
     refine AW.region ?_
     refine AL.ra ?_
     refine AL.ra ?_
     refine AL.ra ?_
     refine AL.nil ?_
     change AW _ _ _ _ _
     refine AW.ret ?_
     change ResA _ _ _ _ _
     refine res3 rfl (ResV.tmp rfl) rfl (ResV.tmp rfl) rfl (ResV.tmp rfl) rfl ?_
     rw [gText, if_pos (by grind)]
    ·skip
     refine AL.n ?_
     refine AL.ro (rd_move rfl rfl) ?_
     refine AL.ro (rd_move rfl rfl) ?_
     refine AL.ro (rd_len_sl rfl el_43 rfl) ?_
     refine AL.ro (rd_move rfl rfl) ?_
     have hg1 := hg
     refine AL.ro (rd_arith_sub rfl rfl rfl (IntWalk.i64_in _ (by have := hg (by assumption); omega))) ?_
     refine AL.ro (rd_bin rfl rfl rfl (fun _ => rfl)) ?_
     refine AL.r (rd_pick_f rfl rfl rfl) ?_
     refine AL.nil ?_
     change AW _ _ _ _ _
     refine AW.cd rfl (fun h40 => ?_) (fun h40 => ?_)
     ·skip
      refine AW.seq ?_
      refine AW.region ?_
      refine AL.ra ?_
      refine AL.ra ?_
      refine AL.ra ?_
      refine AL.nil ?_
      change AW _ _ _ _ _
      refine AW.ret ?_
      change ResA _ _ _ _ _
      refine res3 rfl (ResV.tmp rfl) rfl (ResV.tmp rfl) rfl (ResV.tmp rfl) rfl ?_
      rw [gText, if_pos (by grind)]
     ·skip
      refine AW.skip ?_
      change AW _ _ _ _ _
      refine AW.seq ?_
      refine AW.region ?_
      obtain ⟨k1, k2, k3, k4⟩ := hg (by assumption)
      refine AL.rm ?_
      refine AL.rm ?_
      refine AL.rm ?_
      refine AL.rm ?_
      refine AL.r (rd_arith_add rfl rfl rfl (IntWalk.i64_in _ (by omega))) ?_
      refine AL.r (rd_slice_sl rfl el_43 rfl byA_one ⟨_, _, rfl, (Int.toNat_of_nonneg (by omega)).symm⟩ ⟨_, _, rfl, (Int.toNat_of_nonneg (by omega)).symm⟩ (by omega) (by rw [byA_len]; omega)) ?_
      refine AL.r (rd_b2s rfl (by kernel_rfl) (src_s rfl)) ?_
      refine AL.rm ?_
      refine AL.rm ?_
      refine AL.r (rd_arith_add rfl rfl rfl (IntWalk.i64_in _ (by omega))) ?_
      refine AL.ra ?_
      refine AL.ra ?_
      refine AL.ra ?_
      refine AL.nil ?_
      change AW _ _ _ _ _
      refine AW.ret ?_
      change ResA _ _ _ _ _
      refine res3 rfl (ResV.tmp rfl) rfl (ResV.tmp rfl) rfl (ResV.tmp rfl) rfl ?_
      rw [gText, if_neg (by grind)]
set_option maxHeartbeats 2000000 in
theorem rget8_c (at_ : Int) (h0 : 0 ≤ at_) (x : ThingD) (h4 : ¬ x.kind = 4) : AC Tryd.prog 54 [.sl (byA b), .sc (.int .i64 at_), .sc (.int .i64 f), x.av] (fun r => r = .s (.tu [(rd8 b at_ f x).1.av, AI (rd8 b at_ f x).2.1, AB (rd8 b at_ f x).2.2])) := by
  have hbb := byA_len b
  have hg : ∀ a, (getN b a f).2.2 = 0 → 0 ≤ a ∧ a < (getN b a f).2.1 ∧ (getN b a f).2.1 ≤ b.length ∧ i64R (getN b a f).1 := fun a => getN_ok
  change AC _ _ [.sl (byA b), .sc (.int .i64 at_), .sc (.int .i64 f), .ag [AI x.kind, AI x.n, AS x.s, AB x.f, AI x.t.rep, AI x.t.n, AI x.v.a, AI x.v.b, AI x.v.c, AI x.v.d, AI x.v.e, AI x.v.f, AI x.r.scope, AS x.r.group, AS x.r.name, AI x.most]] _
  refine AC.of' 214 3 Tryd.func54 rfl ?_
  change AW _ _ _ _ [TK.mk 0 .off, TK.mk 0 .off, TK.mk 0 .off]
  refine AW.seq ?_
  refine AW.region ?_
  refine AL.op rfl (AOpB.op (op_box 0 rfl rfl rfl rfl rfl ?_))
  refine AL.n ?_
  refine AL.op rfl (AOpB.op (op_alloc 1 rfl ze_76 rfl ?_))
  refine AL.n ?_
  refine AL.ra ?_
  refine AL.ra ?_
  refine AL.nil ?_
  change AW _ _ _ _ _
  refine AW.seq ?_
  refine AW.region ?_
  refine AL.r (rd_faddr_bx rfl fo_76_0 rfl rfl ⟨_, _, rfl⟩) ?_
  refine AL.r (rd_load_bx rfl ag_3 rfl rfl rfl) ?_
  refine AL.r (rd_faddr_bx rfl fo_76_7 rfl rfl ⟨_, _, rfl⟩) ?_
  refine AL.r (rd_load_bx rfl ag_3 rfl rfl rfl) ?_
  refine AL.r (rd_build rfl pl_76 ze_76 rfl rfl) ?_
  refine AL.op rfl (AOpB.op (op_alloc 2 rfl ze_76 rfl ?_))
  refine AL.n ?_
  refine AL.op rfl (op_store_ rfl rfl rfl rfl rfl sz_76 ?_)
  refine AL.b ?_
  refine AL.nil ?_
  change AW _ _ _ _ _
  refine AW.seq ?_
  refine AW.seq ?_
  refine AW.region ?_
  refine AL.r (rd_faddr_bx rfl fo_76_0 rfl rfl ⟨_, _, rfl⟩) ?_
  refine AL.r (rd_load_bx rfl ag_3 rfl rfl rfl) ?_
  refine AL.nil ?_
  change AW _ _ _ _ _
  refine AW.block ?_
  refine AW.seq ?_
  refine AW.seq ?_
  refine AW.region ?_
  refine AL.r (rd_bin rfl rfl rfl (fun _ => rfl)) ?_
  refine AL.ra ?_
  refine AL.nil ?_
  change AW _ _ _ _ _
  refine AW.cd rfl (fun h44 => ?_) (fun h44 => ?_)
  ·skip
   refine AW.skip ?_
   change AW _ _ _ _ _
   refine AW.cd rfl (fun h44 => ?_) (fun h44 => ?_)
   ·skip
    refine AW.seq ?_
    refine AW.region ?_
    refine AL.rm ?_
    refine AL.rm ?_
    refine AL.rm ?_
    refine AL.op rfl (AOpB.op (op_call (crget_c b at_ f (by omega)) rfl (by kernel_rfl) rfl (none) ?_))
    rintro r rfl
    refine AL.n ?_
    refine AL.rm ?_
    refine AL.r (rd_extract rfl rfl rfl) ?_
    refine AL.r (rd_extract rfl rfl rfl) ?_
    refine AL.r (rd_extract rfl rfl rfl) ?_
    refine AL.ra ?_
    refine AL.ra ?_
    refine AL.ra ?_
    refine AL.nil ?_
    change AW _ _ _ _ _
    refine AW.seq ?_
    refine AW.seq ?_
    refine AW.region ?_
    refine AL.rm ?_
    refine AL.r (rd_bin rfl rfl rfl (fun _ => rfl)) ?_
    refine AL.rm ?_
    refine AL.fk (d := 57) rfl (fun h57 => ?_) (fun h57 => ?_)
    ·skip
     refine AL.n ?_
     refine AL.rf ?_
     refine AL.rf ?_
     refine AL.rf ?_
     refine AL.rf ?_
     refine AL.ru ?_
     refine AL.ru ?_
     refine AL.ru ?_
     refine AL.ru ?_
     refine AL.ru ?_
     refine AL.ru ?_
     refine AL.ru ?_
     refine AL.ru ?_
     refine AL.rf ?_
     refine AL.r (rd_pick_t rfl rfl rfl) ?_
     refine AL.nil ?_
     change AW _ _ _ _ _
     refine AW.cond_t rfl ?_
     refine AW.seq ?_
     refine AW.region ?_
     refine AL.r (rd_loadN_bx rfl ag_76 rfl rfl (Nat.le_of_ble_eq_true rfl) rfl) ?_
     refine AL.op rfl (op_store_ rfl rfl rfl rfl rfl sz_76 ?_)
     refine AL.b ?_
     refine AL.ra ?_
     refine AL.ra ?_
     refine AL.nil ?_
     change AW _ _ _ _ _
     refine AW.ret ?_
     change ResA _ _ _ _ _
     refine res3 rfl (ResV.cells rfl rfl ag_76 (Nat.le_of_ble_eq_true rfl) rfl) rfl (ResV.tmp rfl) rfl (ResV.tmp rfl) rfl ?_
     rw [show rd8 b at_ f x = (out8 x, 0, false) by unfold rd8; grind]; rfl
    ·skip
     refine AL.n ?_
     refine AL.ro (rd_faddr_bx rfl fo_76_0 rfl rfl ⟨_, _, rfl⟩) ?_
     refine AL.ro (rd_load_bx rfl ag_3 rfl rfl rfl) ?_
     refine AL.ro (rd_bin rfl rfl rfl (fun _ => rfl)) ?_
     refine AL.ro (rd_move rfl rfl) ?_
     refine AL.fk (d := 61) rfl (fun h61 => ?_) (fun h61 => ?_)
     ·skip
      refine AL.n ?_
      refine AL.ro (rd_move rfl rfl) ?_
      refine AL.ro (rd_bin rfl rfl rfl (fun _ => rfl)) ?_
      refine AL.ro (rd_move rfl rfl) ?_
      refine AL.fk (d := 64) rfl (fun h64 => ?_) (fun h64 => ?_)
      ·skip
       refine AL.n ?_
       refine AL.rf ?_
       refine AL.rf ?_
       refine AL.rf ?_
       refine AL.rf ?_
       refine AL.ro (rd_pick_t rfl rfl rfl) ?_
       refine AL.ro (rd_pick_t rfl rfl rfl) ?_
       refine AL.r (rd_pick_f rfl rfl rfl) ?_
       refine AL.nil ?_
       change AW _ _ _ _ _
       refine AW.cond_t rfl ?_
       refine AW.seq ?_
       refine AW.region ?_
       refine AL.r (rd_loadN_bx rfl ag_76 rfl rfl (Nat.le_of_ble_eq_true rfl) rfl) ?_
       refine AL.op rfl (op_store_ rfl rfl rfl rfl rfl sz_76 ?_)
       refine AL.b ?_
       refine AL.ra ?_
       refine AL.ra ?_
       refine AL.nil ?_
       change AW _ _ _ _ _
       refine AW.ret ?_
       change ResA _ _ _ _ _
       refine res3 rfl (ResV.cells rfl rfl ag_76 (Nat.le_of_ble_eq_true rfl) rfl) rfl (ResV.tmp rfl) rfl (ResV.tmp rfl) rfl ?_
       rw [show rd8 b at_ f x = (out8 x, 0, false) by unfold rd8; grind]; rfl
      ·skip
       refine AL.n ?_
       refine AL.ro (rd_move rfl rfl) ?_
       refine AL.ro (rd_faddr_bx rfl fo_76_7 rfl rfl ⟨_, _, rfl⟩) ?_
       refine AL.ro (rd_load_bx rfl ag_3 rfl rfl rfl) ?_
       refine AL.ro (rd_bin rfl rfl rfl (fun _ => rfl)) ?_
       refine AL.ro (rd_pick_f rfl rfl rfl) ?_
       refine AL.ro (rd_pick_t rfl rfl rfl) ?_
       refine AL.r (rd_pick_f rfl rfl rfl) ?_
       refine AL.nil ?_
       change AW _ _ _ _ _
       refine AW.cd rfl (fun h71 => ?_) (fun h71 => ?_)
       ·skip
        refine AW.seq ?_
        refine AW.region ?_
        refine AL.r (rd_loadN_bx rfl ag_76 rfl rfl (Nat.le_of_ble_eq_true rfl) rfl) ?_
        refine AL.op rfl (op_store_ rfl rfl rfl rfl rfl sz_76 ?_)
        refine AL.b ?_
        refine AL.ra ?_
        refine AL.ra ?_
        refine AL.nil ?_
        change AW _ _ _ _ _
        refine AW.ret ?_
        change ResA _ _ _ _ _
        refine res3 rfl (ResV.cells rfl rfl ag_76 (Nat.le_of_ble_eq_true rfl) rfl) rfl (ResV.tmp rfl) rfl (ResV.tmp rfl) rfl ?_
        rw [show rd8 b at_ f x = (out8 x, 0, false) by unfold rd8; grind]; rfl
       ·skip
        refine AW.skip ?_
        change AW _ _ _ _ _
        refine AW.seq ?_
        refine AW.region ?_
        refine AL.rm ?_
        refine AL.r (rd_faddr_bx rfl fo_76_1 rfl rfl ⟨_, _, rfl⟩) ?_
        refine AL.op rfl (op_store_ rfl rfl rfl rfl rfl sz_2 ?_)
        refine AL.b ?_
        refine AL.nil ?_
        change AW _ _ _ _ _
        refine AW.seq ?_
        refine AW.region ?_
        refine AL.r (rd_loadN_bx rfl ag_76 rfl rfl (Nat.le_of_ble_eq_true rfl) rfl) ?_
        refine AL.rm ?_
        refine AL.op rfl (op_store_ rfl rfl rfl rfl rfl sz_76 ?_)
        refine AL.b ?_
        refine AL.ra ?_
        refine AL.ra ?_
        refine AL.nil ?_
        change AW _ _ _ _ _
        refine AW.ret ?_
        change ResA _ _ _ _ _
        refine res3 rfl (ResV.cells rfl rfl ag_76 (Nat.le_of_ble_eq_true rfl) rfl) rfl (ResV.tmp rfl) rfl (ResV.tmp rfl) rfl ?_
        rw [show rd8 b at_ f x = ({ out8 x with n := (getN b at_ f).1 }, (getN b at_ f).2.1, true) by unfold rd8; grind]; rfl
     ·skip
      refine AL.n ?_
      refine AL.rf ?_
      refine AL.rf ?_
      refine AL.rf ?_
      refine AL.ru ?_
      refine AL.ru ?_
      refine AL.ru ?_
      refine AL.ru ?_
      refine AL.rf ?_
      refine AL.ro (rd_pick_f rfl rfl rfl) ?_
      refine AL.r (rd_pick_f rfl rfl rfl) ?_
      refine AL.nil ?_
      change AW _ _ _ _ _
      refine AW.cond_f rfl ?_
      refine AW.skip ?_
      change AW _ _ _ _ _
      refine AW.seq ?_
      refine AW.region ?_
      refine AL.rm ?_
      refine AL.r (rd_faddr_bx rfl fo_76_1 rfl rfl ⟨_, _, rfl⟩) ?_
      refine AL.op rfl (op_store_ rfl rfl rfl rfl rfl sz_2 ?_)
      refine AL.b ?_
      refine AL.nil ?_
      change AW _ _ _ _ _
      refine AW.seq ?_
      refine AW.region ?_
      refine AL.r (rd_loadN_bx rfl ag_76 rfl rfl (Nat.le_of_ble_eq_true rfl) rfl) ?_
      refine AL.rm ?_
      refine AL.op rfl (op_store_ rfl rfl rfl rfl rfl sz_76 ?_)
      refine AL.b ?_
      refine AL.ra ?_
      refine AL.ra ?_
      refine AL.nil ?_
      change AW _ _ _ _ _
      refine AW.ret ?_
      change ResA _ _ _ _ _
      refine res3 rfl (ResV.cells rfl rfl ag_76 (Nat.le_of_ble_eq_true rfl) rfl) rfl (ResV.tmp rfl) rfl (ResV.tmp rfl) rfl ?_
      rw [show rd8 b at_ f x = ({ out8 x with n := (getN b at_ f).1 }, (getN b at_ f).2.1, true) by unfold rd8; grind]; rfl
   ·skip
    refine AW.seq ?_
    refine AW.region ?_
    refine AL.r (rd_bin rfl rfl rfl (fun _ => rfl)) ?_
    refine AL.ra ?_
    refine AL.nil ?_
    change AW _ _ _ _ _
    refine AW.cd rfl (fun h77 => ?_) (fun h77 => ?_)
    ·skip
     refine AW.seq ?_
     refine AW.region ?_
     refine AL.rm ?_
     refine AL.rm ?_
     refine AL.rm ?_
     refine AL.r (rd_faddr_bx rfl fo_76_7 rfl rfl ⟨_, _, rfl⟩) ?_
     refine AL.r (rd_load_bx rfl ag_3 rfl rfl rfl) ?_
     refine AL.op rfl (AOpB.op (op_call (rgtext_c b f hb at_ x.most) rfl (by kernel_rfl) rfl (none) ?_))
     rintro r rfl
     refine AL.n ?_
     refine AL.rm ?_
     refine AL.r (rd_extract rfl rfl rfl) ?_
     refine AL.r (rd_extract rfl rfl rfl) ?_
     refine AL.r (rd_extract rfl rfl rfl) ?_
     refine AL.ra ?_
     refine AL.ra ?_
     refine AL.ra ?_
     refine AL.nil ?_
     change AW _ _ _ _ _
     refine AW.seq ?_
     refine AW.region ?_
     refine AL.rm ?_
     refine AL.r (rd_faddr_bx rfl fo_76_2 rfl rfl ⟨_, _, rfl⟩) ?_
     refine AL.op rfl (op_store_ rfl rfl rfl rfl rfl sz_9 ?_)
     refine AL.b ?_
     refine AL.nil ?_
     change AW _ _ _ _ _
     refine AW.seq ?_
     refine AW.region ?_
     refine AL.r (rd_loadN_bx rfl ag_76 rfl rfl (Nat.le_of_ble_eq_true rfl) rfl) ?_
     refine AL.rm ?_
     refine AL.rm ?_
     refine AL.op rfl (op_store_ rfl rfl rfl rfl rfl sz_76 ?_)
     refine AL.b ?_
     refine AL.ra ?_
     refine AL.ra ?_
     refine AL.nil ?_
     change AW _ _ _ _ _
     refine AW.ret ?_
     change ResA _ _ _ _ _
     refine res3 rfl (ResV.cells rfl rfl ag_76 (Nat.le_of_ble_eq_true rfl) rfl) rfl (ResV.tmp rfl) rfl (ResV.tmp rfl) rfl ?_
     rw [show rd8 b at_ f x = ({ out8 x with s := (gText b at_ f x.most).1 }, (gText b at_ f x.most).2.1, (gText b at_ f x.most).2.2) by unfold rd8; grind]; rfl
    ·skip
     refine AW.seq ?_
     refine AW.region ?_
     refine AL.r (rd_bin rfl rfl rfl (fun _ => rfl)) ?_
     refine AL.ra ?_
     refine AL.nil ?_
     change AW _ _ _ _ _
     refine AW.cd rfl (fun h94 => ?_) (fun h94 => ?_)
     ·skip
      refine AW.seq ?_
      refine AW.seq ?_
      refine AW.region ?_
      refine AL.rm ?_
      refine AL.rm ?_
      refine AL.r (rd_len_sl rfl el_43 rfl) ?_
      refine AL.r (rd_bin rfl rfl rfl (fun _ => rfl)) ?_
      refine AL.rm ?_
      refine AL.fk (d := 100) rfl (fun h100 => ?_) (fun h100 => ?_)
      ·skip
       refine AL.n ?_
       refine AL.rf ?_
       refine AL.rf ?_
       refine AL.rf ?_
       refine AL.rf ?_
       refine AL.rf ?_
       refine AL.r (rd_pick_t rfl rfl rfl) ?_
       refine AL.nil ?_
       change AW _ _ _ _ _
       refine AW.cond_t rfl ?_
       refine AW.seq ?_
       refine AW.region ?_
       refine AL.r (rd_loadN_bx rfl ag_76 rfl rfl (Nat.le_of_ble_eq_true rfl) rfl) ?_
       refine AL.op rfl (op_store_ rfl rfl rfl rfl rfl sz_76 ?_)
       refine AL.b ?_
       refine AL.ra ?_
       refine AL.ra ?_
       refine AL.nil ?_
       change AW _ _ _ _ _
       refine AW.ret ?_
       change ResA _ _ _ _ _
       refine res3 rfl (ResV.cells rfl rfl ag_76 (Nat.le_of_ble_eq_true rfl) rfl) rfl (ResV.tmp rfl) rfl (ResV.tmp rfl) rfl ?_
       rw [show rd8 b at_ f x = (out8 x, 0, false) by unfold rd8; grind]; rfl
      ·skip
       refine AL.n ?_
       refine AL.ro (rd_move rfl rfl) ?_
       refine AL.ro (rd_move rfl rfl) ?_
       refine AL.ro (rd_iaddr_sl rfl el_43 rfl rfl (Int.toNat_of_nonneg h0).symm (get_byD (by omega)) rfl) ?_
       refine AL.ro (rd_load_ep rfl ag_5 rfl rfl) ?_
       refine AL.ro (rd_bin rfl rfl rfl (fun _ => rfl)) ?_
       refine AL.r (rd_pick_f rfl rfl rfl) ?_
       refine AL.nil ?_
       change AW _ _ _ _ _
       refine AW.cd rfl (fun h106 => ?_) (fun h106 => ?_)
       ·skip
        refine AW.seq ?_
        refine AW.region ?_
        refine AL.r (rd_loadN_bx rfl ag_76 rfl rfl (Nat.le_of_ble_eq_true rfl) rfl) ?_
        refine AL.op rfl (op_store_ rfl rfl rfl rfl rfl sz_76 ?_)
        refine AL.b ?_
        refine AL.ra ?_
        refine AL.ra ?_
        refine AL.nil ?_
        change AW _ _ _ _ _
        refine AW.ret ?_
        change ResA _ _ _ _ _
        refine res3 rfl (ResV.cells rfl rfl ag_76 (Nat.le_of_ble_eq_true rfl) rfl) rfl (ResV.tmp rfl) rfl (ResV.tmp rfl) rfl ?_
        rw [show rd8 b at_ f x = (out8 x, 0, false) by unfold rd8; grind]; rfl
       ·skip
        refine AW.skip ?_
        change AW _ _ _ _ _
        refine AW.seq ?_
        refine AW.region ?_
        refine AL.rm ?_
        refine AL.rm ?_
        refine AL.r (rd_iaddr_sl rfl el_43 rfl rfl (Int.toNat_of_nonneg h0).symm (get_byD (by omega)) rfl) ?_
        refine AL.r (rd_load_ep rfl ag_5 rfl rfl) ?_
        refine AL.r (rd_bin rfl rfl rfl (fun _ => rfl)) ?_
        refine AL.r (rd_faddr_bx rfl fo_76_3 rfl rfl ⟨_, _, rfl⟩) ?_
        refine AL.op rfl (op_store_ rfl rfl rfl rfl rfl sz_4 ?_)
        refine AL.b ?_
        refine AL.nil ?_
        change AW _ _ _ _ _
        refine AW.seq ?_
        refine AW.region ?_
        refine AL.r (rd_loadN_bx rfl ag_76 rfl rfl (Nat.le_of_ble_eq_true rfl) rfl) ?_
        refine AL.rm ?_
        refine AL.r (rd_arith_add rfl rfl rfl (IntWalk.i64_in _ (by omega))) ?_
        refine AL.op rfl (op_store_ rfl rfl rfl rfl rfl sz_76 ?_)
        refine AL.b ?_
        refine AL.ra ?_
        refine AL.ra ?_
        refine AL.nil ?_
        change AW _ _ _ _ _
        refine AW.ret ?_
        change ResA _ _ _ _ _
        refine res3 rfl (ResV.cells rfl rfl ag_76 (Nat.le_of_ble_eq_true rfl) rfl) rfl (ResV.tmp rfl) rfl (ResV.tmp rfl) rfl ?_
        rw [show rd8 b at_ f x = ({ out8 x with f := (b.getD at_.toNat 0).toNat == 1 }, at_ + 1, true) by unfold rd8; grind, ← u8_one]; rfl
     ·skip
      refine AW.seq ?_
      refine AW.region ?_
      refine AL.r (rd_bin rfl rfl rfl (fun _ => rfl)) ?_
      refine AL.ra ?_
      refine AL.nil ?_
      change AW _ _ _ _ _
      refine AW.cd rfl (fun h117 => ?_) (fun h117 => ?_)
      ·skip
       refine AW.seq ?_
       refine AW.region ?_
       refine AL.rm ?_
       refine AL.rm ?_
       refine AL.rm ?_
       refine AL.op rfl (AOpB.op (op_call (crget_c b at_ f (by omega)) rfl (by kernel_rfl) rfl (none) ?_))
       rintro r rfl
       refine AL.n ?_
       refine AL.rm ?_
       refine AL.r (rd_extract rfl rfl rfl) ?_
       refine AL.r (rd_extract rfl rfl rfl) ?_
       refine AL.r (rd_extract rfl rfl rfl) ?_
       refine AL.ra ?_
       refine AL.ra ?_
       refine AL.ra ?_
       refine AL.nil ?_
       change AW _ _ _ _ _
       refine AW.seq ?_
       refine AW.seq ?_
       refine AW.region ?_
       refine AL.rm ?_
       refine AL.r (rd_bin rfl rfl rfl (fun _ => rfl)) ?_
       refine AL.nil ?_
       change AW _ _ _ _ _
       refine AW.cd rfl (fun h128 => ?_) (fun h128 => ?_)
       ·skip
        refine AW.seq ?_
        refine AW.region ?_
        refine AL.r (rd_loadN_bx rfl ag_76 rfl rfl (Nat.le_of_ble_eq_true rfl) rfl) ?_
        refine AL.op rfl (op_store_ rfl rfl rfl rfl rfl sz_76 ?_)
        refine AL.b ?_
        refine AL.ra ?_
        refine AL.ra ?_
        refine AL.nil ?_
        change AW _ _ _ _ _
        refine AW.ret ?_
        change ResA _ _ _ _ _
        refine res3 rfl (ResV.cells rfl rfl ag_76 (Nat.le_of_ble_eq_true rfl) rfl) rfl (ResV.tmp rfl) rfl (ResV.tmp rfl) rfl ?_
        rw [show rd8 b at_ f x = (out8 x, 0, false) by unfold rd8; grind]; rfl
       ·skip
        refine AW.skip ?_
        change AW _ _ _ _ _
        refine AW.seq ?_
        refine AW.region ?_
        refine AL.rm ?_
        refine AL.rm ?_
        refine AL.rm ?_
        refine AL.op rfl (AOpB.op (op_call (crget_c b (getN b at_ f).2.1 f (by omega)) rfl (by kernel_rfl) rfl (none) ?_))
        rintro r rfl
        refine AL.n ?_
        refine AL.rm ?_
        refine AL.r (rd_extract rfl rfl rfl) ?_
        refine AL.r (rd_extract rfl rfl rfl) ?_
        refine AL.r (rd_extract rfl rfl rfl) ?_
        refine AL.ra ?_
        refine AL.ra ?_
        refine AL.ra ?_
        refine AL.nil ?_
        change AW _ _ _ _ _
        refine AW.seq ?_
        refine AW.seq ?_
        refine AW.region ?_
        refine AL.rm ?_
        refine AL.r (rd_bin rfl rfl rfl (fun _ => rfl)) ?_
        refine AL.nil ?_
        change AW _ _ _ _ _
        refine AW.cd rfl (fun h139 => ?_) (fun h139 => ?_)
        ·skip
         refine AW.seq ?_
         refine AW.region ?_
         refine AL.r (rd_loadN_bx rfl ag_76 rfl rfl (Nat.le_of_ble_eq_true rfl) rfl) ?_
         refine AL.op rfl (op_store_ rfl rfl rfl rfl rfl sz_76 ?_)
         refine AL.b ?_
         refine AL.ra ?_
         refine AL.ra ?_
         refine AL.nil ?_
         change AW _ _ _ _ _
         refine AW.ret ?_
         change ResA _ _ _ _ _
         refine res3 rfl (ResV.cells rfl rfl ag_76 (Nat.le_of_ble_eq_true rfl) rfl) rfl (ResV.tmp rfl) rfl (ResV.tmp rfl) rfl ?_
         rw [show rd8 b at_ f x = (out8 x, 0, false) by unfold rd8; grind]; rfl
        ·skip
         refine AW.skip ?_
         change AW _ _ _ _ _
         refine AW.seq ?_
         refine AW.region ?_
         refine AL.rm ?_
         refine AL.rm ?_
         refine AL.r (rd_build rfl pl_72 ze_72 rfl rfl) ?_
         refine AL.r (rd_faddr_bx rfl fo_76_4 rfl rfl ⟨_, _, rfl⟩) ?_
         refine AL.op rfl (op_store_ rfl rfl rfl rfl rfl sz_72 ?_)
         refine AL.b ?_
         refine AL.nil ?_
         change AW _ _ _ _ _
         refine AW.seq ?_
         refine AW.region ?_
         refine AL.r (rd_loadN_bx rfl ag_76 rfl rfl (Nat.le_of_ble_eq_true rfl) rfl) ?_
         refine AL.rm ?_
         refine AL.op rfl (op_store_ rfl rfl rfl rfl rfl sz_76 ?_)
         refine AL.b ?_
         refine AL.ra ?_
         refine AL.ra ?_
         refine AL.nil ?_
         change AW _ _ _ _ _
         refine AW.ret ?_
         change ResA _ _ _ _ _
         refine res3 rfl (ResV.cells rfl rfl ag_76 (Nat.le_of_ble_eq_true rfl) rfl) rfl (ResV.tmp rfl) rfl (ResV.tmp rfl) rfl ?_
         rw [show rd8 b at_ f x = ({ out8 x with t := ⟨(getN b at_ f).1, (getN b (getN b at_ f).2.1 f).1⟩ }, (getN b (getN b at_ f).2.1 f).2.1, true) by unfold rd8; grind]; rfl
      ·skip
       refine AW.seq ?_
       refine AW.region ?_
       refine AL.r (rd_bin rfl rfl rfl (fun _ => rfl)) ?_
       refine AL.ra ?_
       refine AL.nil ?_
       change AW _ _ _ _ _
       refine AW.cd rfl (fun h147 => ?_) (fun h147 => ?_)
       ·skip
        refine AW.seq ?_
        refine AW.seq ?_
        exact absurd (by assumption) h4
       ·skip
        refine AW.seq ?_
        refine AW.region ?_
        refine AL.r (rd_bin rfl rfl rfl (fun _ => rfl)) ?_
        refine AL.ra ?_
        refine AL.nil ?_
        change AW _ _ _ _ _
        refine AW.cd rfl (fun h175 => ?_) (fun h175 => ?_)
        ·skip
         refine AW.seq ?_
         refine AW.region ?_
         refine AL.rm ?_
         refine AL.rm ?_
         refine AL.rm ?_
         refine AL.op rfl (AOpB.op (op_call (crget_c b at_ f (by omega)) rfl (by kernel_rfl) rfl (none) ?_))
         rintro r rfl
         refine AL.n ?_
         refine AL.rm ?_
         refine AL.r (rd_extract rfl rfl rfl) ?_
         refine AL.r (rd_extract rfl rfl rfl) ?_
         refine AL.r (rd_extract rfl rfl rfl) ?_
         refine AL.ra ?_
         refine AL.ra ?_
         refine AL.ra ?_
         refine AL.nil ?_
         change AW _ _ _ _ _
         refine AW.seq ?_
         refine AW.seq ?_
         refine AW.region ?_
         refine AL.rm ?_
         refine AL.r (rd_bin rfl rfl rfl (fun _ => rfl)) ?_
         refine AL.nil ?_
         change AW _ _ _ _ _
         refine AW.cd rfl (fun h186 => ?_) (fun h186 => ?_)
         ·skip
          refine AW.seq ?_
          refine AW.region ?_
          refine AL.r (rd_loadN_bx rfl ag_76 rfl rfl (Nat.le_of_ble_eq_true rfl) rfl) ?_
          refine AL.op rfl (op_store_ rfl rfl rfl rfl rfl sz_76 ?_)
          refine AL.b ?_
          refine AL.ra ?_
          refine AL.ra ?_
          refine AL.nil ?_
          change AW _ _ _ _ _
          refine AW.ret ?_
          change ResA _ _ _ _ _
          refine res3 rfl (ResV.cells rfl rfl ag_76 (Nat.le_of_ble_eq_true rfl) rfl) rfl (ResV.tmp rfl) rfl (ResV.tmp rfl) rfl ?_
          rw [show rd8 b at_ f x = (out8 x, 0, false) by unfold rd8; grind]; rfl
         ·skip
          refine AW.skip ?_
          change AW _ _ _ _ _
          refine AW.seq ?_
          refine AW.region ?_
          refine AL.rm ?_
          refine AL.rm ?_
          refine AL.rm ?_
          refine AL.op rfl (AOpB.op (op_call (rgtext_c b f hb (getN b at_ f).2.1 12) rfl (by kernel_rfl) rfl (none) ?_))
          rintro r rfl
          refine AL.n ?_
          refine AL.rm ?_
          refine AL.r (rd_extract rfl rfl rfl) ?_
          refine AL.r (rd_extract rfl rfl rfl) ?_
          refine AL.r (rd_extract rfl rfl rfl) ?_
          refine AL.ra ?_
          refine AL.ra ?_
          refine AL.ra ?_
          refine AL.nil ?_
          change AW _ _ _ _ _
          refine AW.seq ?_
          refine AW.seq ?_
          refine AW.region ?_
          refine AL.rm ?_
          refine AL.r (rd_un rfl rfl (fun _ => rfl)) ?_
          refine AL.nil ?_
          change AW _ _ _ _ _
          refine AW.cd rfl (fun h197 => ?_) (fun h197 => ?_)
          ·skip
           refine AW.seq ?_
           refine AW.region ?_
           refine AL.r (rd_loadN_bx rfl ag_76 rfl rfl (Nat.le_of_ble_eq_true rfl) rfl) ?_
           refine AL.op rfl (op_store_ rfl rfl rfl rfl rfl sz_76 ?_)
           refine AL.b ?_
           refine AL.ra ?_
           refine AL.ra ?_
           refine AL.nil ?_
           change AW _ _ _ _ _
           refine AW.ret ?_
           change ResA _ _ _ _ _
           refine res3 rfl (ResV.cells rfl rfl ag_76 (Nat.le_of_ble_eq_true rfl) rfl) rfl (ResV.tmp rfl) rfl (ResV.tmp rfl) rfl ?_
           rw [show rd8 b at_ f x = (out8 x, 0, false) by unfold rd8; grind]; rfl
          ·skip
           refine AW.skip ?_
           change AW _ _ _ _ _
           refine AW.seq ?_
           refine AW.region ?_
           refine AL.rm ?_
           refine AL.rm ?_
           refine AL.rm ?_
           refine AL.op rfl (AOpB.op (op_call (rgtext_c b f hb (gText b (getN b at_ f).2.1 f 12).2.1 12) rfl (by kernel_rfl) rfl (none) ?_))
           rintro r rfl
           refine AL.n ?_
           refine AL.rm ?_
           refine AL.r (rd_extract rfl rfl rfl) ?_
           refine AL.r (rd_extract rfl rfl rfl) ?_
           refine AL.r (rd_extract rfl rfl rfl) ?_
           refine AL.ra ?_
           refine AL.ra ?_
           refine AL.ra ?_
           refine AL.nil ?_
           change AW _ _ _ _ _
           refine AW.seq ?_
           refine AW.seq ?_
           refine AW.region ?_
           refine AL.rm ?_
           refine AL.r (rd_un rfl rfl (fun _ => rfl)) ?_
           refine AL.nil ?_
           change AW _ _ _ _ _
           refine AW.cd rfl (fun h208 => ?_) (fun h208 => ?_)
           ·skip
            refine AW.seq ?_
            refine AW.region ?_
            refine AL.r (rd_loadN_bx rfl ag_76 rfl rfl (Nat.le_of_ble_eq_true rfl) rfl) ?_
            refine AL.op rfl (op_store_ rfl rfl rfl rfl rfl sz_76 ?_)
            refine AL.b ?_
            refine AL.ra ?_
            refine AL.ra ?_
            refine AL.nil ?_
            change AW _ _ _ _ _
            refine AW.ret ?_
            change ResA _ _ _ _ _
            refine res3 rfl (ResV.cells rfl rfl ag_76 (Nat.le_of_ble_eq_true rfl) rfl) rfl (ResV.tmp rfl) rfl (ResV.tmp rfl) rfl ?_
            rw [show rd8 b at_ f x = (out8 x, 0, false) by unfold rd8; grind]; rfl
           ·skip
            refine AW.skip ?_
            change AW _ _ _ _ _
            refine AW.seq ?_
            refine AW.region ?_
            refine AL.rm ?_
            refine AL.rm ?_
            refine AL.rm ?_
            refine AL.r (rd_build rfl pl_23 ze_23 rfl rfl) ?_
            refine AL.r (rd_faddr_bx rfl fo_76_6 rfl rfl ⟨_, _, rfl⟩) ?_
            refine AL.op rfl (op_store_ rfl rfl rfl rfl rfl sz_23 ?_)
            refine AL.b ?_
            refine AL.nil ?_
            change AW _ _ _ _ _
            refine AW.seq ?_
            refine AW.region ?_
            refine AL.r (rd_loadN_bx rfl ag_76 rfl rfl (Nat.le_of_ble_eq_true rfl) rfl) ?_
            refine AL.rm ?_
            refine AL.op rfl (op_store_ rfl rfl rfl rfl rfl sz_76 ?_)
            refine AL.b ?_
            refine AL.ra ?_
            refine AL.ra ?_
            refine AL.nil ?_
            change AW _ _ _ _ _
            refine AW.ret ?_
            change ResA _ _ _ _ _
            refine res3 rfl (ResV.cells rfl rfl ag_76 (Nat.le_of_ble_eq_true rfl) rfl) rfl (ResV.tmp rfl) rfl (ResV.tmp rfl) rfl ?_
            rw [show rd8 b at_ f x = ({ out8 x with r := ⟨(getN b at_ f).1, (gText b (getN b at_ f).2.1 f 12).1, (gText b (gText b (getN b at_ f).2.1 f 12).2.1 f 12).1⟩ }, (gText b (gText b (getN b at_ f).2.1 f 12).2.1 f 12).2.1, true) by unfold rd8; grind]; rfl
        ·skip
         refine AW.skip ?_
         change AW _ _ _ _ _
         refine AW.seq ?_
         refine AW.region ?_
         refine AL.r (rd_loadN_bx rfl ag_76 rfl rfl (Nat.le_of_ble_eq_true rfl) rfl) ?_
         refine AL.op rfl (op_store_ rfl rfl rfl rfl rfl sz_76 ?_)
         refine AL.b ?_
         refine AL.ra ?_
         refine AL.ra ?_
         refine AL.nil ?_
         change AW _ _ _ _ _
         refine AW.ret ?_
         change ResA _ _ _ _ _
         refine res3 rfl (ResV.cells rfl rfl ag_76 (Nat.le_of_ble_eq_true rfl) rfl) rfl (ResV.tmp rfl) rfl (ResV.tmp rfl) rfl ?_
         rw [show rd8 b at_ f x = (out8 x, 0, false) by unfold rd8; grind]; rfl
  ·skip
   refine AW.region ?_
   refine AL.r (rd_bin rfl rfl rfl (fun _ => rfl)) ?_
   refine AL.ra ?_
   refine AL.nil ?_
   change AW _ _ _ _ _
   refine AW.cd rfl (fun h44 => ?_) (fun h44 => ?_)
   ·skip
    refine AW.seq ?_
    refine AW.region ?_
    refine AL.rm ?_
    refine AL.rm ?_
    refine AL.rm ?_
    refine AL.op rfl (AOpB.op (op_call (crget_c b at_ f (by omega)) rfl (by kernel_rfl) rfl (none) ?_))
    rintro r rfl
    refine AL.n ?_
    refine AL.rm ?_
    refine AL.r (rd_extract rfl rfl rfl) ?_
    refine AL.r (rd_extract rfl rfl rfl) ?_
    refine AL.r (rd_extract rfl rfl rfl) ?_
    refine AL.ra ?_
    refine AL.ra ?_
    refine AL.ra ?_
    refine AL.nil ?_
    change AW _ _ _ _ _
    refine AW.seq ?_
    refine AW.seq ?_
    refine AW.region ?_
    refine AL.rm ?_
    refine AL.r (rd_bin rfl rfl rfl (fun _ => rfl)) ?_
    refine AL.rm ?_
    refine AL.fk (d := 57) rfl (fun h57 => ?_) (fun h57 => ?_)
    ·skip
     refine AL.n ?_
     refine AL.rf ?_
     refine AL.rf ?_
     refine AL.rf ?_
     refine AL.rf ?_
     refine AL.ru ?_
     refine AL.ru ?_
     refine AL.ru ?_
     refine AL.ru ?_
     refine AL.ru ?_
     refine AL.ru ?_
     refine AL.ru ?_
     refine AL.ru ?_
     refine AL.rf ?_
     refine AL.r (rd_pick_t rfl rfl rfl) ?_
     refine AL.nil ?_
     change AW _ _ _ _ _
     refine AW.cond_t rfl ?_
     refine AW.seq ?_
     refine AW.region ?_
     refine AL.r (rd_loadN_bx rfl ag_76 rfl rfl (Nat.le_of_ble_eq_true rfl) rfl) ?_
     refine AL.op rfl (op_store_ rfl rfl rfl rfl rfl sz_76 ?_)
     refine AL.b ?_
     refine AL.ra ?_
     refine AL.ra ?_
     refine AL.nil ?_
     change AW _ _ _ _ _
     refine AW.ret ?_
     change ResA _ _ _ _ _
     refine res3 rfl (ResV.cells rfl rfl ag_76 (Nat.le_of_ble_eq_true rfl) rfl) rfl (ResV.tmp rfl) rfl (ResV.tmp rfl) rfl ?_
     rw [show rd8 b at_ f x = (out8 x, 0, false) by unfold rd8; grind]; rfl
    ·skip
     refine AL.n ?_
     refine AL.ro (rd_faddr_bx rfl fo_76_0 rfl rfl ⟨_, _, rfl⟩) ?_
     refine AL.ro (rd_load_bx rfl ag_3 rfl rfl rfl) ?_
     refine AL.ro (rd_bin rfl rfl rfl (fun _ => rfl)) ?_
     refine AL.ro (rd_move rfl rfl) ?_
     refine AL.fk (d := 61) rfl (fun h61 => ?_) (fun h61 => ?_)
     ·skip
      refine AL.n ?_
      refine AL.ro (rd_move rfl rfl) ?_
      refine AL.ro (rd_bin rfl rfl rfl (fun _ => rfl)) ?_
      refine AL.ro (rd_move rfl rfl) ?_
      refine AL.fk (d := 64) rfl (fun h64 => ?_) (fun h64 => ?_)
      ·skip
       refine AL.n ?_
       refine AL.rf ?_
       refine AL.rf ?_
       refine AL.rf ?_
       refine AL.rf ?_
       refine AL.ro (rd_pick_t rfl rfl rfl) ?_
       refine AL.ro (rd_pick_t rfl rfl rfl) ?_
       refine AL.r (rd_pick_f rfl rfl rfl) ?_
       refine AL.nil ?_
       change AW _ _ _ _ _
       refine AW.cond_t rfl ?_
       refine AW.seq ?_
       refine AW.region ?_
       refine AL.r (rd_loadN_bx rfl ag_76 rfl rfl (Nat.le_of_ble_eq_true rfl) rfl) ?_
       refine AL.op rfl (op_store_ rfl rfl rfl rfl rfl sz_76 ?_)
       refine AL.b ?_
       refine AL.ra ?_
       refine AL.ra ?_
       refine AL.nil ?_
       change AW _ _ _ _ _
       refine AW.ret ?_
       change ResA _ _ _ _ _
       refine res3 rfl (ResV.cells rfl rfl ag_76 (Nat.le_of_ble_eq_true rfl) rfl) rfl (ResV.tmp rfl) rfl (ResV.tmp rfl) rfl ?_
       rw [show rd8 b at_ f x = (out8 x, 0, false) by unfold rd8; grind]; rfl
      ·skip
       refine AL.n ?_
       refine AL.ro (rd_move rfl rfl) ?_
       refine AL.ro (rd_faddr_bx rfl fo_76_7 rfl rfl ⟨_, _, rfl⟩) ?_
       refine AL.ro (rd_load_bx rfl ag_3 rfl rfl rfl) ?_
       refine AL.ro (rd_bin rfl rfl rfl (fun _ => rfl)) ?_
       refine AL.ro (rd_pick_f rfl rfl rfl) ?_
       refine AL.ro (rd_pick_t rfl rfl rfl) ?_
       refine AL.r (rd_pick_f rfl rfl rfl) ?_
       refine AL.nil ?_
       change AW _ _ _ _ _
       refine AW.cd rfl (fun h71 => ?_) (fun h71 => ?_)
       ·skip
        refine AW.seq ?_
        refine AW.region ?_
        refine AL.r (rd_loadN_bx rfl ag_76 rfl rfl (Nat.le_of_ble_eq_true rfl) rfl) ?_
        refine AL.op rfl (op_store_ rfl rfl rfl rfl rfl sz_76 ?_)
        refine AL.b ?_
        refine AL.ra ?_
        refine AL.ra ?_
        refine AL.nil ?_
        change AW _ _ _ _ _
        refine AW.ret ?_
        change ResA _ _ _ _ _
        refine res3 rfl (ResV.cells rfl rfl ag_76 (Nat.le_of_ble_eq_true rfl) rfl) rfl (ResV.tmp rfl) rfl (ResV.tmp rfl) rfl ?_
        rw [show rd8 b at_ f x = (out8 x, 0, false) by unfold rd8; grind]; rfl
       ·skip
        refine AW.skip ?_
        change AW _ _ _ _ _
        refine AW.seq ?_
        refine AW.region ?_
        refine AL.rm ?_
        refine AL.r (rd_faddr_bx rfl fo_76_1 rfl rfl ⟨_, _, rfl⟩) ?_
        refine AL.op rfl (op_store_ rfl rfl rfl rfl rfl sz_2 ?_)
        refine AL.b ?_
        refine AL.nil ?_
        change AW _ _ _ _ _
        refine AW.seq ?_
        refine AW.region ?_
        refine AL.r (rd_loadN_bx rfl ag_76 rfl rfl (Nat.le_of_ble_eq_true rfl) rfl) ?_
        refine AL.rm ?_
        refine AL.op rfl (op_store_ rfl rfl rfl rfl rfl sz_76 ?_)
        refine AL.b ?_
        refine AL.ra ?_
        refine AL.ra ?_
        refine AL.nil ?_
        change AW _ _ _ _ _
        refine AW.ret ?_
        change ResA _ _ _ _ _
        refine res3 rfl (ResV.cells rfl rfl ag_76 (Nat.le_of_ble_eq_true rfl) rfl) rfl (ResV.tmp rfl) rfl (ResV.tmp rfl) rfl ?_
        rw [show rd8 b at_ f x = ({ out8 x with n := (getN b at_ f).1 }, (getN b at_ f).2.1, true) by unfold rd8; grind]; rfl
     ·skip
      refine AL.n ?_
      refine AL.rf ?_
      refine AL.rf ?_
      refine AL.rf ?_
      refine AL.ru ?_
      refine AL.ru ?_
      refine AL.ru ?_
      refine AL.ru ?_
      refine AL.rf ?_
      refine AL.ro (rd_pick_f rfl rfl rfl) ?_
      refine AL.r (rd_pick_f rfl rfl rfl) ?_
      refine AL.nil ?_
      change AW _ _ _ _ _
      refine AW.cond_f rfl ?_
      refine AW.skip ?_
      change AW _ _ _ _ _
      refine AW.seq ?_
      refine AW.region ?_
      refine AL.rm ?_
      refine AL.r (rd_faddr_bx rfl fo_76_1 rfl rfl ⟨_, _, rfl⟩) ?_
      refine AL.op rfl (op_store_ rfl rfl rfl rfl rfl sz_2 ?_)
      refine AL.b ?_
      refine AL.nil ?_
      change AW _ _ _ _ _
      refine AW.seq ?_
      refine AW.region ?_
      refine AL.r (rd_loadN_bx rfl ag_76 rfl rfl (Nat.le_of_ble_eq_true rfl) rfl) ?_
      refine AL.rm ?_
      refine AL.op rfl (op_store_ rfl rfl rfl rfl rfl sz_76 ?_)
      refine AL.b ?_
      refine AL.ra ?_
      refine AL.ra ?_
      refine AL.nil ?_
      change AW _ _ _ _ _
      refine AW.ret ?_
      change ResA _ _ _ _ _
      refine res3 rfl (ResV.cells rfl rfl ag_76 (Nat.le_of_ble_eq_true rfl) rfl) rfl (ResV.tmp rfl) rfl (ResV.tmp rfl) rfl ?_
      rw [show rd8 b at_ f x = ({ out8 x with n := (getN b at_ f).1 }, (getN b at_ f).2.1, true) by unfold rd8; grind]; rfl
   ·skip
    refine AW.seq ?_
    refine AW.region ?_
    refine AL.r (rd_bin rfl rfl rfl (fun _ => rfl)) ?_
    refine AL.ra ?_
    refine AL.nil ?_
    change AW _ _ _ _ _
    refine AW.cd rfl (fun h77 => ?_) (fun h77 => ?_)
    ·skip
     refine AW.seq ?_
     refine AW.region ?_
     refine AL.rm ?_
     refine AL.rm ?_
     refine AL.rm ?_
     refine AL.r (rd_faddr_bx rfl fo_76_7 rfl rfl ⟨_, _, rfl⟩) ?_
     refine AL.r (rd_load_bx rfl ag_3 rfl rfl rfl) ?_
     refine AL.op rfl (AOpB.op (op_call (rgtext_c b f hb at_ x.most) rfl (by kernel_rfl) rfl (none) ?_))
     rintro r rfl
     refine AL.n ?_
     refine AL.rm ?_
     refine AL.r (rd_extract rfl rfl rfl) ?_
     refine AL.r (rd_extract rfl rfl rfl) ?_
     refine AL.r (rd_extract rfl rfl rfl) ?_
     refine AL.ra ?_
     refine AL.ra ?_
     refine AL.ra ?_
     refine AL.nil ?_
     change AW _ _ _ _ _
     refine AW.seq ?_
     refine AW.region ?_
     refine AL.rm ?_
     refine AL.r (rd_faddr_bx rfl fo_76_2 rfl rfl ⟨_, _, rfl⟩) ?_
     refine AL.op rfl (op_store_ rfl rfl rfl rfl rfl sz_9 ?_)
     refine AL.b ?_
     refine AL.nil ?_
     change AW _ _ _ _ _
     refine AW.seq ?_
     refine AW.region ?_
     refine AL.r (rd_loadN_bx rfl ag_76 rfl rfl (Nat.le_of_ble_eq_true rfl) rfl) ?_
     refine AL.rm ?_
     refine AL.rm ?_
     refine AL.op rfl (op_store_ rfl rfl rfl rfl rfl sz_76 ?_)
     refine AL.b ?_
     refine AL.ra ?_
     refine AL.ra ?_
     refine AL.nil ?_
     change AW _ _ _ _ _
     refine AW.ret ?_
     change ResA _ _ _ _ _
     refine res3 rfl (ResV.cells rfl rfl ag_76 (Nat.le_of_ble_eq_true rfl) rfl) rfl (ResV.tmp rfl) rfl (ResV.tmp rfl) rfl ?_
     rw [show rd8 b at_ f x = ({ out8 x with s := (gText b at_ f x.most).1 }, (gText b at_ f x.most).2.1, (gText b at_ f x.most).2.2) by unfold rd8; grind]; rfl
    ·skip
     refine AW.seq ?_
     refine AW.region ?_
     refine AL.r (rd_bin rfl rfl rfl (fun _ => rfl)) ?_
     refine AL.ra ?_
     refine AL.nil ?_
     change AW _ _ _ _ _
     refine AW.cd rfl (fun h94 => ?_) (fun h94 => ?_)
     ·skip
      refine AW.seq ?_
      refine AW.seq ?_
      refine AW.region ?_
      refine AL.rm ?_
      refine AL.rm ?_
      refine AL.r (rd_len_sl rfl el_43 rfl) ?_
      refine AL.r (rd_bin rfl rfl rfl (fun _ => rfl)) ?_
      refine AL.rm ?_
      refine AL.fk (d := 100) rfl (fun h100 => ?_) (fun h100 => ?_)
      ·skip
       refine AL.n ?_
       refine AL.rf ?_
       refine AL.rf ?_
       refine AL.rf ?_
       refine AL.rf ?_
       refine AL.rf ?_
       refine AL.r (rd_pick_t rfl rfl rfl) ?_
       refine AL.nil ?_
       change AW _ _ _ _ _
       refine AW.cond_t rfl ?_
       refine AW.seq ?_
       refine AW.region ?_
       refine AL.r (rd_loadN_bx rfl ag_76 rfl rfl (Nat.le_of_ble_eq_true rfl) rfl) ?_
       refine AL.op rfl (op_store_ rfl rfl rfl rfl rfl sz_76 ?_)
       refine AL.b ?_
       refine AL.ra ?_
       refine AL.ra ?_
       refine AL.nil ?_
       change AW _ _ _ _ _
       refine AW.ret ?_
       change ResA _ _ _ _ _
       refine res3 rfl (ResV.cells rfl rfl ag_76 (Nat.le_of_ble_eq_true rfl) rfl) rfl (ResV.tmp rfl) rfl (ResV.tmp rfl) rfl ?_
       rw [show rd8 b at_ f x = (out8 x, 0, false) by unfold rd8; grind]; rfl
      ·skip
       refine AL.n ?_
       refine AL.ro (rd_move rfl rfl) ?_
       refine AL.ro (rd_move rfl rfl) ?_
       refine AL.ro (rd_iaddr_sl rfl el_43 rfl rfl (Int.toNat_of_nonneg h0).symm (get_byD (by omega)) rfl) ?_
       refine AL.ro (rd_load_ep rfl ag_5 rfl rfl) ?_
       refine AL.ro (rd_bin rfl rfl rfl (fun _ => rfl)) ?_
       refine AL.r (rd_pick_f rfl rfl rfl) ?_
       refine AL.nil ?_
       change AW _ _ _ _ _
       refine AW.cd rfl (fun h106 => ?_) (fun h106 => ?_)
       ·skip
        refine AW.seq ?_
        refine AW.region ?_
        refine AL.r (rd_loadN_bx rfl ag_76 rfl rfl (Nat.le_of_ble_eq_true rfl) rfl) ?_
        refine AL.op rfl (op_store_ rfl rfl rfl rfl rfl sz_76 ?_)
        refine AL.b ?_
        refine AL.ra ?_
        refine AL.ra ?_
        refine AL.nil ?_
        change AW _ _ _ _ _
        refine AW.ret ?_
        change ResA _ _ _ _ _
        refine res3 rfl (ResV.cells rfl rfl ag_76 (Nat.le_of_ble_eq_true rfl) rfl) rfl (ResV.tmp rfl) rfl (ResV.tmp rfl) rfl ?_
        rw [show rd8 b at_ f x = (out8 x, 0, false) by unfold rd8; grind]; rfl
       ·skip
        refine AW.skip ?_
        change AW _ _ _ _ _
        refine AW.seq ?_
        refine AW.region ?_
        refine AL.rm ?_
        refine AL.rm ?_
        refine AL.r (rd_iaddr_sl rfl el_43 rfl rfl (Int.toNat_of_nonneg h0).symm (get_byD (by omega)) rfl) ?_
        refine AL.r (rd_load_ep rfl ag_5 rfl rfl) ?_
        refine AL.r (rd_bin rfl rfl rfl (fun _ => rfl)) ?_
        refine AL.r (rd_faddr_bx rfl fo_76_3 rfl rfl ⟨_, _, rfl⟩) ?_
        refine AL.op rfl (op_store_ rfl rfl rfl rfl rfl sz_4 ?_)
        refine AL.b ?_
        refine AL.nil ?_
        change AW _ _ _ _ _
        refine AW.seq ?_
        refine AW.region ?_
        refine AL.r (rd_loadN_bx rfl ag_76 rfl rfl (Nat.le_of_ble_eq_true rfl) rfl) ?_
        refine AL.rm ?_
        refine AL.r (rd_arith_add rfl rfl rfl (IntWalk.i64_in _ (by omega))) ?_
        refine AL.op rfl (op_store_ rfl rfl rfl rfl rfl sz_76 ?_)
        refine AL.b ?_
        refine AL.ra ?_
        refine AL.ra ?_
        refine AL.nil ?_
        change AW _ _ _ _ _
        refine AW.ret ?_
        change ResA _ _ _ _ _
        refine res3 rfl (ResV.cells rfl rfl ag_76 (Nat.le_of_ble_eq_true rfl) rfl) rfl (ResV.tmp rfl) rfl (ResV.tmp rfl) rfl ?_
        rw [show rd8 b at_ f x = ({ out8 x with f := (b.getD at_.toNat 0).toNat == 1 }, at_ + 1, true) by unfold rd8; grind, ← u8_one]; rfl
     ·skip
      refine AW.seq ?_
      refine AW.region ?_
      refine AL.r (rd_bin rfl rfl rfl (fun _ => rfl)) ?_
      refine AL.ra ?_
      refine AL.nil ?_
      change AW _ _ _ _ _
      refine AW.cd rfl (fun h117 => ?_) (fun h117 => ?_)
      ·skip
       refine AW.seq ?_
       refine AW.region ?_
       refine AL.rm ?_
       refine AL.rm ?_
       refine AL.rm ?_
       refine AL.op rfl (AOpB.op (op_call (crget_c b at_ f (by omega)) rfl (by kernel_rfl) rfl (none) ?_))
       rintro r rfl
       refine AL.n ?_
       refine AL.rm ?_
       refine AL.r (rd_extract rfl rfl rfl) ?_
       refine AL.r (rd_extract rfl rfl rfl) ?_
       refine AL.r (rd_extract rfl rfl rfl) ?_
       refine AL.ra ?_
       refine AL.ra ?_
       refine AL.ra ?_
       refine AL.nil ?_
       change AW _ _ _ _ _
       refine AW.seq ?_
       refine AW.seq ?_
       refine AW.region ?_
       refine AL.rm ?_
       refine AL.r (rd_bin rfl rfl rfl (fun _ => rfl)) ?_
       refine AL.nil ?_
       change AW _ _ _ _ _
       refine AW.cd rfl (fun h128 => ?_) (fun h128 => ?_)
       ·skip
        refine AW.seq ?_
        refine AW.region ?_
        refine AL.r (rd_loadN_bx rfl ag_76 rfl rfl (Nat.le_of_ble_eq_true rfl) rfl) ?_
        refine AL.op rfl (op_store_ rfl rfl rfl rfl rfl sz_76 ?_)
        refine AL.b ?_
        refine AL.ra ?_
        refine AL.ra ?_
        refine AL.nil ?_
        change AW _ _ _ _ _
        refine AW.ret ?_
        change ResA _ _ _ _ _
        refine res3 rfl (ResV.cells rfl rfl ag_76 (Nat.le_of_ble_eq_true rfl) rfl) rfl (ResV.tmp rfl) rfl (ResV.tmp rfl) rfl ?_
        rw [show rd8 b at_ f x = (out8 x, 0, false) by unfold rd8; grind]; rfl
       ·skip
        refine AW.skip ?_
        change AW _ _ _ _ _
        refine AW.seq ?_
        refine AW.region ?_
        refine AL.rm ?_
        refine AL.rm ?_
        refine AL.rm ?_
        refine AL.op rfl (AOpB.op (op_call (crget_c b (getN b at_ f).2.1 f (by omega)) rfl (by kernel_rfl) rfl (none) ?_))
        rintro r rfl
        refine AL.n ?_
        refine AL.rm ?_
        refine AL.r (rd_extract rfl rfl rfl) ?_
        refine AL.r (rd_extract rfl rfl rfl) ?_
        refine AL.r (rd_extract rfl rfl rfl) ?_
        refine AL.ra ?_
        refine AL.ra ?_
        refine AL.ra ?_
        refine AL.nil ?_
        change AW _ _ _ _ _
        refine AW.seq ?_
        refine AW.seq ?_
        refine AW.region ?_
        refine AL.rm ?_
        refine AL.r (rd_bin rfl rfl rfl (fun _ => rfl)) ?_
        refine AL.nil ?_
        change AW _ _ _ _ _
        refine AW.cd rfl (fun h139 => ?_) (fun h139 => ?_)
        ·skip
         refine AW.seq ?_
         refine AW.region ?_
         refine AL.r (rd_loadN_bx rfl ag_76 rfl rfl (Nat.le_of_ble_eq_true rfl) rfl) ?_
         refine AL.op rfl (op_store_ rfl rfl rfl rfl rfl sz_76 ?_)
         refine AL.b ?_
         refine AL.ra ?_
         refine AL.ra ?_
         refine AL.nil ?_
         change AW _ _ _ _ _
         refine AW.ret ?_
         change ResA _ _ _ _ _
         refine res3 rfl (ResV.cells rfl rfl ag_76 (Nat.le_of_ble_eq_true rfl) rfl) rfl (ResV.tmp rfl) rfl (ResV.tmp rfl) rfl ?_
         rw [show rd8 b at_ f x = (out8 x, 0, false) by unfold rd8; grind]; rfl
        ·skip
         refine AW.skip ?_
         change AW _ _ _ _ _
         refine AW.seq ?_
         refine AW.region ?_
         refine AL.rm ?_
         refine AL.rm ?_
         refine AL.r (rd_build rfl pl_72 ze_72 rfl rfl) ?_
         refine AL.r (rd_faddr_bx rfl fo_76_4 rfl rfl ⟨_, _, rfl⟩) ?_
         refine AL.op rfl (op_store_ rfl rfl rfl rfl rfl sz_72 ?_)
         refine AL.b ?_
         refine AL.nil ?_
         change AW _ _ _ _ _
         refine AW.seq ?_
         refine AW.region ?_
         refine AL.r (rd_loadN_bx rfl ag_76 rfl rfl (Nat.le_of_ble_eq_true rfl) rfl) ?_
         refine AL.rm ?_
         refine AL.op rfl (op_store_ rfl rfl rfl rfl rfl sz_76 ?_)
         refine AL.b ?_
         refine AL.ra ?_
         refine AL.ra ?_
         refine AL.nil ?_
         change AW _ _ _ _ _
         refine AW.ret ?_
         change ResA _ _ _ _ _
         refine res3 rfl (ResV.cells rfl rfl ag_76 (Nat.le_of_ble_eq_true rfl) rfl) rfl (ResV.tmp rfl) rfl (ResV.tmp rfl) rfl ?_
         rw [show rd8 b at_ f x = ({ out8 x with t := ⟨(getN b at_ f).1, (getN b (getN b at_ f).2.1 f).1⟩ }, (getN b (getN b at_ f).2.1 f).2.1, true) by unfold rd8; grind]; rfl
      ·skip
       refine AW.seq ?_
       refine AW.region ?_
       refine AL.r (rd_bin rfl rfl rfl (fun _ => rfl)) ?_
       refine AL.ra ?_
       refine AL.nil ?_
       change AW _ _ _ _ _
       refine AW.cd rfl (fun h147 => ?_) (fun h147 => ?_)
       ·skip
        refine AW.seq ?_
        refine AW.seq ?_
        exact absurd (by assumption) h4
       ·skip
        refine AW.seq ?_
        refine AW.region ?_
        refine AL.r (rd_bin rfl rfl rfl (fun _ => rfl)) ?_
        refine AL.ra ?_
        refine AL.nil ?_
        change AW _ _ _ _ _
        refine AW.cd rfl (fun h175 => ?_) (fun h175 => ?_)
        ·skip
         refine AW.seq ?_
         refine AW.region ?_
         refine AL.rm ?_
         refine AL.rm ?_
         refine AL.rm ?_
         refine AL.op rfl (AOpB.op (op_call (crget_c b at_ f (by omega)) rfl (by kernel_rfl) rfl (none) ?_))
         rintro r rfl
         refine AL.n ?_
         refine AL.rm ?_
         refine AL.r (rd_extract rfl rfl rfl) ?_
         refine AL.r (rd_extract rfl rfl rfl) ?_
         refine AL.r (rd_extract rfl rfl rfl) ?_
         refine AL.ra ?_
         refine AL.ra ?_
         refine AL.ra ?_
         refine AL.nil ?_
         change AW _ _ _ _ _
         refine AW.seq ?_
         refine AW.seq ?_
         refine AW.region ?_
         refine AL.rm ?_
         refine AL.r (rd_bin rfl rfl rfl (fun _ => rfl)) ?_
         refine AL.nil ?_
         change AW _ _ _ _ _
         refine AW.cd rfl (fun h186 => ?_) (fun h186 => ?_)
         ·skip
          refine AW.seq ?_
          refine AW.region ?_
          refine AL.r (rd_loadN_bx rfl ag_76 rfl rfl (Nat.le_of_ble_eq_true rfl) rfl) ?_
          refine AL.op rfl (op_store_ rfl rfl rfl rfl rfl sz_76 ?_)
          refine AL.b ?_
          refine AL.ra ?_
          refine AL.ra ?_
          refine AL.nil ?_
          change AW _ _ _ _ _
          refine AW.ret ?_
          change ResA _ _ _ _ _
          refine res3 rfl (ResV.cells rfl rfl ag_76 (Nat.le_of_ble_eq_true rfl) rfl) rfl (ResV.tmp rfl) rfl (ResV.tmp rfl) rfl ?_
          rw [show rd8 b at_ f x = (out8 x, 0, false) by unfold rd8; grind]; rfl
         ·skip
          refine AW.skip ?_
          change AW _ _ _ _ _
          refine AW.seq ?_
          refine AW.region ?_
          refine AL.rm ?_
          refine AL.rm ?_
          refine AL.rm ?_
          refine AL.op rfl (AOpB.op (op_call (rgtext_c b f hb (getN b at_ f).2.1 12) rfl (by kernel_rfl) rfl (none) ?_))
          rintro r rfl
          refine AL.n ?_
          refine AL.rm ?_
          refine AL.r (rd_extract rfl rfl rfl) ?_
          refine AL.r (rd_extract rfl rfl rfl) ?_
          refine AL.r (rd_extract rfl rfl rfl) ?_
          refine AL.ra ?_
          refine AL.ra ?_
          refine AL.ra ?_
          refine AL.nil ?_
          change AW _ _ _ _ _
          refine AW.seq ?_
          refine AW.seq ?_
          refine AW.region ?_
          refine AL.rm ?_
          refine AL.r (rd_un rfl rfl (fun _ => rfl)) ?_
          refine AL.nil ?_
          change AW _ _ _ _ _
          refine AW.cd rfl (fun h197 => ?_) (fun h197 => ?_)
          ·skip
           refine AW.seq ?_
           refine AW.region ?_
           refine AL.r (rd_loadN_bx rfl ag_76 rfl rfl (Nat.le_of_ble_eq_true rfl) rfl) ?_
           refine AL.op rfl (op_store_ rfl rfl rfl rfl rfl sz_76 ?_)
           refine AL.b ?_
           refine AL.ra ?_
           refine AL.ra ?_
           refine AL.nil ?_
           change AW _ _ _ _ _
           refine AW.ret ?_
           change ResA _ _ _ _ _
           refine res3 rfl (ResV.cells rfl rfl ag_76 (Nat.le_of_ble_eq_true rfl) rfl) rfl (ResV.tmp rfl) rfl (ResV.tmp rfl) rfl ?_
           rw [show rd8 b at_ f x = (out8 x, 0, false) by unfold rd8; grind]; rfl
          ·skip
           refine AW.skip ?_
           change AW _ _ _ _ _
           refine AW.seq ?_
           refine AW.region ?_
           refine AL.rm ?_
           refine AL.rm ?_
           refine AL.rm ?_
           refine AL.op rfl (AOpB.op (op_call (rgtext_c b f hb (gText b (getN b at_ f).2.1 f 12).2.1 12) rfl (by kernel_rfl) rfl (none) ?_))
           rintro r rfl
           refine AL.n ?_
           refine AL.rm ?_
           refine AL.r (rd_extract rfl rfl rfl) ?_
           refine AL.r (rd_extract rfl rfl rfl) ?_
           refine AL.r (rd_extract rfl rfl rfl) ?_
           refine AL.ra ?_
           refine AL.ra ?_
           refine AL.ra ?_
           refine AL.nil ?_
           change AW _ _ _ _ _
           refine AW.seq ?_
           refine AW.seq ?_
           refine AW.region ?_
           refine AL.rm ?_
           refine AL.r (rd_un rfl rfl (fun _ => rfl)) ?_
           refine AL.nil ?_
           change AW _ _ _ _ _
           refine AW.cd rfl (fun h208 => ?_) (fun h208 => ?_)
           ·skip
            refine AW.seq ?_
            refine AW.region ?_
            refine AL.r (rd_loadN_bx rfl ag_76 rfl rfl (Nat.le_of_ble_eq_true rfl) rfl) ?_
            refine AL.op rfl (op_store_ rfl rfl rfl rfl rfl sz_76 ?_)
            refine AL.b ?_
            refine AL.ra ?_
            refine AL.ra ?_
            refine AL.nil ?_
            change AW _ _ _ _ _
            refine AW.ret ?_
            change ResA _ _ _ _ _
            refine res3 rfl (ResV.cells rfl rfl ag_76 (Nat.le_of_ble_eq_true rfl) rfl) rfl (ResV.tmp rfl) rfl (ResV.tmp rfl) rfl ?_
            rw [show rd8 b at_ f x = (out8 x, 0, false) by unfold rd8; grind]; rfl
           ·skip
            refine AW.skip ?_
            change AW _ _ _ _ _
            refine AW.seq ?_
            refine AW.region ?_
            refine AL.rm ?_
            refine AL.rm ?_
            refine AL.rm ?_
            refine AL.r (rd_build rfl pl_23 ze_23 rfl rfl) ?_
            refine AL.r (rd_faddr_bx rfl fo_76_6 rfl rfl ⟨_, _, rfl⟩) ?_
            refine AL.op rfl (op_store_ rfl rfl rfl rfl rfl sz_23 ?_)
            refine AL.b ?_
            refine AL.nil ?_
            change AW _ _ _ _ _
            refine AW.seq ?_
            refine AW.region ?_
            refine AL.r (rd_loadN_bx rfl ag_76 rfl rfl (Nat.le_of_ble_eq_true rfl) rfl) ?_
            refine AL.rm ?_
            refine AL.op rfl (op_store_ rfl rfl rfl rfl rfl sz_76 ?_)
            refine AL.b ?_
            refine AL.ra ?_
            refine AL.ra ?_
            refine AL.nil ?_
            change AW _ _ _ _ _
            refine AW.ret ?_
            change ResA _ _ _ _ _
            refine res3 rfl (ResV.cells rfl rfl ag_76 (Nat.le_of_ble_eq_true rfl) rfl) rfl (ResV.tmp rfl) rfl (ResV.tmp rfl) rfl ?_
            rw [show rd8 b at_ f x = ({ out8 x with r := ⟨(getN b at_ f).1, (gText b (getN b at_ f).2.1 f 12).1, (gText b (gText b (getN b at_ f).2.1 f 12).2.1 f 12).1⟩ }, (gText b (gText b (getN b at_ f).2.1 f 12).2.1 f 12).2.1, true) by unfold rd8; grind]; rfl
        ·skip
         refine AW.skip ?_
         change AW _ _ _ _ _
         refine AW.seq ?_
         refine AW.region ?_
         refine AL.r (rd_loadN_bx rfl ag_76 rfl rfl (Nat.le_of_ble_eq_true rfl) rfl) ?_
         refine AL.op rfl (op_store_ rfl rfl rfl rfl rfl sz_76 ?_)
         refine AL.b ?_
         refine AL.ra ?_
         refine AL.ra ?_
         refine AL.nil ?_
         change AW _ _ _ _ _
         refine AW.ret ?_
         change ResA _ _ _ _ _
         refine res3 rfl (ResV.cells rfl rfl ag_76 (Nat.le_of_ble_eq_true rfl) rfl) rfl (ResV.tmp rfl) rfl (ResV.tmp rfl) rfl ?_
         rw [show rd8 b at_ f x = (out8 x, 0, false) by unfold rd8; grind]; rfl
end
end Go.Proofs.YtpkjlmaphhileaaDoor
