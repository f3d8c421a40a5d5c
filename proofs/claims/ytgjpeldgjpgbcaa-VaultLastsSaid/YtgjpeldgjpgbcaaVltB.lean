/- The vault's functions Add, Sync, Fresh, Open, walked over abstract states. -/
import Derived.Test.YtgjpeldgjpgbcaaVltA
import Derived.Test.YtgjpeldgjpgbcaaMv
namespace Go.Proofs.Ytgjpeldgjpgbcaa
set_option linter.unusedSimpArgs false
set_option linter.unusedVariables false
set_option maxRecDepth 100000
open Go.RowKit

def vaddR (t : Nat → Nat) (V : VltD) (L : LogD) (d : DiskD) (b : List UInt8) : Int := if (V.down || d.dark) = true then 10 else addR t L d b
def vaddV (t : Nat → Nat) (V : VltD) (L : LogD) (d : DiskD) (b : List UInt8) : VltD := if (V.down || d.dark) = true then { V with down := true } else { V with down := decide (addR t L d b = 10) }
def vaddL (t : Nat → Nat) (V : VltD) (L : LogD) (d : DiskD) (b : List UInt8) : LogD := if (V.down || d.dark) = true then L else addL t L d b
def vaddD (t : Nat → Nat) (V : VltD) (L : LogD) (d : DiskD) (b : List UInt8) : DiskD := if (V.down || d.dark) = true then d else addD t L d b
def vsyncR (V : VltD) (L : LogD) (d : DiskD) : Int := if (V.down || d.dark) = true then 10 else lsyncR L d
def vsyncV (V : VltD) (L : LogD) (d : DiskD) : VltD := if (V.down || d.dark) = true then { V with down := true } else { V with down := decide (lsyncR L d = 10) }
def vsyncL (V : VltD) (L : LogD) (d : DiskD) : LogD := if (V.down || d.dark) = true then L else lsyncL L d
def vsyncD (V : VltD) (L : LogD) (d : DiskD) : DiskD := if (V.down || d.dark) = true then d else lsyncD L d
theorem vl_fresh (g G : Nat) (t : Nat → Nat) (L : LogD) (d : DiskD) : ACo Try.prog 45 [.bx 0 g 0] (LogT g G t L d) (fun y os' => y = .sc (.int .i64 L.fresh) ∧ os' = LogT g G t L d) := by
  refine ACo.of' (st0 := [⟨g, .box 111 (fatC [.bx 1 G 0] t [.sc (.int .i64 L.file), .sc (.bool L.down), .sc (.int .i64 L.records), .sc (.int .i64 L.used), .sc (.int .i64 L.fresh)])⟩, ⟨G, .obj (DiskP d)⟩]) 8 0 Try.func45 rfl 2 ?_
  refine AW.seq ?_
  refine AW.region ?_
  refine AL.ra ?_
  refine AL.nil ?_
  change AW _ _ _ _ _
  refine AW.seq ?_
  refine AW.seq ?_
  refine AW.region ?_
  refine AL.rm ?_
  refine AL.r (rd_peq_bx rfl pt_55 rfl rfl rfl) ?_
  refine AL.nil ?_
  change AW _ _ _ _ _
  refine AW.cond_f rfl ?_
  refine AW.skip ?_
  change AW _ _ _ _ _
  refine AW.seq ?_
  refine AW.region ?_
  refine AL.rm ?_
  refine AL.r (rd_nilc_bx rfl rfl rfl) ?_
  refine AL.r (rd_faddr_bx rfl fo_111_6 rfl rfl ⟨_, _, rfl⟩) ?_
  refine AL.r (rd_load_bx rfl ag_3 rfl rfl (fat_post 4 rfl rfl)) ?_
  refine AL.ra ?_
  refine AL.nil ?_
  change AW _ _ _ _ _
  refine AW.ret ?_
  repeat with_reducible first | refine thenA_ret ?_ | refine inBlockA_ret ?_
  with_reducible first | refine retO_ret ?_ | refine retO_normal ?_
  refine reso1L rfl (ResV.tmp rfl) rfl ?_
  exact ⟨rfl, rfl⟩
section
variable (gv gs gl G : Nat) (t : Nat → Nat) (ht : ∀ i, i < 256 → t i < 4294967296) (V : VltD) (S : SltD) (L : LogD) {k : Nat} (d : DiskD) (hd : d.Ok k) (hk : k ≤ 900000)
theorem vfresh_c : ACo Try.prog 68 [.bx 0 gv 0] (VltT gv gs gl G t V S L d) (fun y os' => y = .sc (.int .i64 L.fresh) ∧ os' = VltT gv gs gl G t V S L d) := by
  refine ACo.of' (st0 := [⟨gv, .box 126 (fatC [.bx 3 G 0] t [.bx 1 gs 0, .bx 2 gl 0, .sc (.int .i64 V.file), .sc (.bool V.down)])⟩, ⟨gs, .box 119 (fatC [.bx 3 G 0] t [.sc (.int .i64 S.file), .sc (.int .i64 S.counts), .sc (.int .i64 S.epoch), .sl (byA S.bytes), .sc (.bool S.down)])⟩, ⟨gl, .box 111 (fatC [.bx 3 G 0] t [.sc (.int .i64 L.file), .sc (.bool L.down), .sc (.int .i64 L.records), .sc (.int .i64 L.used), .sc (.int .i64 L.fresh)])⟩, ⟨G, .obj (DiskP d)⟩]) 9 0 Try.func68 rfl 4 ?_
  refine AW.seq ?_
  refine AW.region ?_
  refine AL.ra ?_
  refine AL.nil ?_
  change AW _ _ _ _ _
  refine AW.seq ?_
  refine AW.seq ?_
  refine AW.region ?_
  refine AL.rm ?_
  refine AL.r (rd_peq_bx rfl pt_83 rfl rfl rfl) ?_
  refine AL.nil ?_
  change AW _ _ _ _ _
  refine AW.cond_f rfl ?_
  refine AW.skip ?_
  change AW _ _ _ _ _
  refine AW.seq ?_
  refine AW.region ?_
  refine AL.rm ?_
  refine AL.r (rd_nilc_bx rfl rfl rfl) ?_
  refine AL.r (rd_faddr_bx rfl fo_126_3 rfl rfl ⟨_, _, rfl⟩) ?_
  refine AL.r (rd_load_bx rfl ag_55 rfl rfl (fat_post 1 rfl rfl)) ?_
  refine AL.op rfl (calloV (vl_fresh gl G t L d) [2, 3] ?_)
  rintro y os' ⟨rfl, rfl⟩
  refine AL.noV ?_
  refine AL.ra ?_
  refine AL.nil ?_
  change AW _ _ _ _ _
  refine AW.ret ?_
  repeat with_reducible first | refine thenA_ret ?_ | refine inBlockA_ret ?_
  with_reducible first | refine retO_ret ?_ | refine retO_normal ?_
  refine reso1V rfl (ResV.tmp rfl) rfl ?_
  exact ⟨rfl, rfl⟩
include hd hk
theorem vsync_c : ACo Try.prog 63 [.bx 0 gv 0] (VltT gv gs gl G t V S L d) (fun y os' => y = .sc (.int .i64 (vsyncR V L d)) ∧ os' = VltT gv gs gl G t (vsyncV V L d) S (vsyncL V L d) (vsyncD V L d)) := by
  refine ACo.of' (st0 := [⟨gv, .box 126 (fatC [.bx 3 G 0] t [.bx 1 gs 0, .bx 2 gl 0, .sc (.int .i64 V.file), .sc (.bool V.down)])⟩, ⟨gs, .box 119 (fatC [.bx 3 G 0] t [.sc (.int .i64 S.file), .sc (.int .i64 S.counts), .sc (.int .i64 S.epoch), .sl (byA S.bytes), .sc (.bool S.down)])⟩, ⟨gl, .box 111 (fatC [.bx 3 G 0] t [.sc (.int .i64 L.file), .sc (.bool L.down), .sc (.int .i64 L.records), .sc (.int .i64 L.used), .sc (.int .i64 L.fresh)])⟩, ⟨G, .obj (DiskP d)⟩]) 15 0 Try.func63 rfl 4 ?_
  refine AW.seq ?_
  refine AW.region ?_
  refine AL.ra ?_
  refine AL.nil ?_
  change AW _ _ _ _ _
  refine AW.seq ?_
  refine AW.seq ?_
  refine AW.region ?_
  refine AL.rm ?_
  refine AL.op rfl (calloV (vready_c gv gs gl G t V S L d) [0, 1, 2, 3] ?_)
  rintro y os' ⟨rfl, rfl⟩
  refine AL.noV ?_
  refine AL.ra ?_
  refine AL.nil ?_
  change AW _ _ _ _ _
  refine AW.seq ?_
  refine AW.region ?_
  refine AL.rm ?_
  refine AL.r (rd_bin rfl rfl rfl (fun _ => rfl)) ?_
  refine AL.nil ?_
  change AW _ _ _ _ _
  refine AW.cd rfl (fun h7 => ?_) (fun h7 => ?_)
  ·skip
   refine AW.seq ?_
   refine AW.region ?_
   refine AL.rm ?_
   refine AL.ra ?_
   refine AL.nil ?_
   change AW _ _ _ _ _
   refine AW.ret ?_
   repeat with_reducible first | refine thenA_ret ?_ | refine inBlockA_ret ?_
   with_reducible first | refine retO_ret ?_ | refine retO_normal ?_
   refine reso1V rfl (ResV.tmp rfl) rfl ?_
   have hdn : (V.down || d.dark) = true := (by cases hx : (V.down || d.dark) <;> simp_all)
   simp [vsyncR, vsyncV, vsyncL, vsyncD, VltT, hdn]
  ·skip
   refine AW.skip ?_
   change AW _ _ _ _ _
   refine AW.seq ?_
   refine AW.region ?_
   have hdn : (V.down || d.dark) = false := (by cases hx : (V.down || d.dark) <;> simp_all)
   rw [hdn]
   refine AL.rm ?_
   refine AL.rm ?_
   refine AL.r (rd_nilc_bx rfl rfl rfl) ?_
   refine AL.r (rd_faddr_bx rfl fo_126_3 rfl rfl ⟨_, _, rfl⟩) ?_
   refine AL.r (rd_load_bx rfl ag_55 rfl rfl (fat_post 1 rfl rfl)) ?_
   refine AL.op rfl (calloV (lsync_c gl G t L d hd (by omega)) [2, 3] ?_)
   rintro y os' ⟨rfl, rfl⟩
   refine AL.noV ?_
   refine AL.op rfl (calloV (vheard_c gv gs gl G t { V with down := false } S (lsyncL L d) (lsyncD L d) (lsyncR L d)) [0, 1, 2, 3] ?_)
   rintro y os' ⟨rfl, rfl⟩
   refine AL.noV ?_
   refine AL.ra ?_
   refine AL.nil ?_
   change AW _ _ _ _ _
   refine AW.ret ?_
   repeat with_reducible first | refine thenA_ret ?_ | refine inBlockA_ret ?_
   with_reducible first | refine retO_ret ?_ | refine retO_normal ?_
   refine reso1V rfl (ResV.tmp rfl) rfl ?_
   obtain ⟨hdl, hdk⟩ := Bool.or_eq_false_iff.1 hdn
   simp [vsyncR, vsyncV, vsyncL, vsyncD, VltT, hdl, hdk]
include ht
theorem vadd_c (hL : L.Ok) (b : List UInt8) : ACo Try.prog 62 [.bx 0 gv 0, .sl (byA b)] (VltT gv gs gl G t V S L d) (fun y os' => y = .sc (.int .i64 (vaddR t V L d b)) ∧ os' = VltT gv gs gl G t (vaddV t V L d b) S (vaddL t V L d b) (vaddD t V L d b)) := by
  refine ACo.of' (st0 := [⟨gv, .box 126 (fatC [.bx 3 G 0] t [.bx 1 gs 0, .bx 2 gl 0, .sc (.int .i64 V.file), .sc (.bool V.down)])⟩, ⟨gs, .box 119 (fatC [.bx 3 G 0] t [.sc (.int .i64 S.file), .sc (.int .i64 S.counts), .sc (.int .i64 S.epoch), .sl (byA S.bytes), .sc (.bool S.down)])⟩, ⟨gl, .box 111 (fatC [.bx 3 G 0] t [.sc (.int .i64 L.file), .sc (.bool L.down), .sc (.int .i64 L.records), .sc (.int .i64 L.used), .sc (.int .i64 L.fresh)])⟩, ⟨G, .obj (DiskP d)⟩]) 17 0 Try.func62 rfl 4 ?_
  refine AW.seq ?_
  refine AW.region ?_
  refine AL.ra ?_
  refine AL.nil ?_
  change AW _ _ _ _ _
  refine AW.seq ?_
  refine AW.seq ?_
  refine AW.region ?_
  refine AL.rm ?_
  refine AL.op rfl (calloV (vready_c gv gs gl G t V S L d) [0, 1, 2, 3] ?_)
  rintro y os' ⟨rfl, rfl⟩
  refine AL.noV ?_
  refine AL.ra ?_
  refine AL.nil ?_
  change AW _ _ _ _ _
  refine AW.seq ?_
  refine AW.region ?_
  refine AL.rm ?_
  refine AL.r (rd_bin rfl rfl rfl (fun _ => rfl)) ?_
  refine AL.nil ?_
  change AW _ _ _ _ _
  refine AW.cd rfl (fun h9 => ?_) (fun h9 => ?_)
  ·skip
   refine AW.seq ?_
   refine AW.region ?_
   refine AL.rm ?_
   refine AL.ra ?_
   refine AL.nil ?_
   change AW _ _ _ _ _
   refine AW.ret ?_
   repeat with_reducible first | refine thenA_ret ?_ | refine inBlockA_ret ?_
   with_reducible first | refine retO_ret ?_ | refine retO_normal ?_
   refine reso1V rfl (ResV.tmp rfl) rfl ?_
   have hdn : (V.down || d.dark) = true := (by cases hx : (V.down || d.dark) <;> simp_all)
   simp [vaddR, vaddV, vaddL, vaddD, VltT, hdn]
  ·skip
   refine AW.skip ?_
   change AW _ _ _ _ _
   refine AW.seq ?_
   refine AW.region ?_
   have hdn : (V.down || d.dark) = false := (by cases hx : (V.down || d.dark) <;> simp_all)
   rw [hdn]
   refine AL.rm ?_
   refine AL.rm ?_
   refine AL.r (rd_nilc_bx rfl rfl rfl) ?_
   refine AL.r (rd_faddr_bx rfl fo_126_3 rfl rfl ⟨_, _, rfl⟩) ?_
   refine AL.r (rd_load_bx rfl ag_55 rfl rfl (fat_post 1 rfl rfl)) ?_
   refine AL.rm ?_
   refine AL.op rfl (calloV (ladd_c gl G t ht L hL d hd (by omega) b) [2, 3] ?_)
   rintro y os' ⟨rfl, rfl⟩
   refine AL.noV ?_
   refine AL.op rfl (calloV (vheard_c gv gs gl G t { V with down := false } S (addL t L d b) (addD t L d b) (addR t L d b)) [0, 1, 2, 3] ?_)
   rintro y os' ⟨rfl, rfl⟩
   refine AL.noV ?_
   refine AL.ra ?_
   refine AL.nil ?_
   change AW _ _ _ _ _
   refine AW.ret ?_
   repeat with_reducible first | refine thenA_ret ?_ | refine inBlockA_ret ?_
   with_reducible first | refine retO_ret ?_ | refine retO_normal ?_
   refine reso1V rfl (ResV.tmp rfl) rfl ?_
   obtain ⟨hdl, hdk⟩ := Bool.or_eq_false_iff.1 hdn
   simp [vaddR, vaddV, vaddL, vaddD, VltT, hdl, hdk]
end
theorem ze_Vlt : zeroC Try.prog 126 = some (.pointer none :: (tabL (fun _ => 0) ++ [.pointer none, .pointer none, .int .i64 0, .bool false])) := by kernel_rfl
theorem ze_VltA : (Value.pointer none :: (tabL (fun _ => 0) ++ [.pointer none, .pointer none, .int .i64 0, .bool false])).map AV.sc = fatC [.sc (.pointer none)] (fun _ => 0) [.sc (.pointer none), .sc (.pointer none), .sc (.int .i64 0), .sc (.bool false)] := by simp [fatC, tabA]
theorem rd_vltbuild {o : Oper} {t : List AV} {st : List TK} {x0 x1 x2 x3 x4 : Operand} {k g ks gs kl gl : Nat} {c cs cl : TC} {f : Nat → Nat} {a : Int} (ho : o.op = .build 126 #[(0, x0), (1, x1), (2, x2), (3, x3), (4, x4)]) (h0 : evA t x0 = .bx k g 0) (hk : st[k]? = some ⟨g, c⟩) (hc : c.isB = true) (h1 : evA t x1 = .sc (tabV f)) (h2 : evA t x2 = .bx ks gs 0) (hks : st[ks]? = some ⟨gs, cs⟩) (hcs : cs.isB = true) (h3 : evA t x3 = .bx kl gl 0) (hkl : st[kl]? = some ⟨gl, cl⟩) (hcl : cl.isB = true) (h4 : evA t x4 = .sc (.int .i64 a)) :
    ARd Try.prog o t st (.ag (fatC [.bx k g 0] f [.bx ks gs 0, .bx kl gl 0, .sc (.int .i64 a), .sc (.bool false)])) := by
  refine rd_build (qs := [(0, [.bx k g 0]), (1, tabA f), (2, [.bx ks gs 0]), (3, [.bx kl gl 0]), (4, [.sc (.int .i64 a)])]) ho pl_126 ze_Vlt ?_ ?_
  · exact parts_cons (by rw [h0]; rfl) (by rw [h0]; exact live_box hk hc) (parts_cons (by rw [h1]; exact tab_cells f) (by rw [h1]; rfl) (parts_cons (by rw [h2]; rfl) (by rw [h2]; exact live_box hks hcs) (parts_cons (by rw [h3]; rfl) (by rw [h3]; exact live_box hkl hcl) (parts_cons (by rw [h4]; rfl) (by rw [h4]; rfl) rfl))))
  · rw [ze_VltA]
    have e0 : splA (fatC [.sc (.pointer none)] (fun _ => 0) [.sc (.pointer none), .sc (.pointer none), .sc (.int .i64 0), .sc (.bool false)]) 0 [.bx k g 0] = fatC [.bx k g 0] (fun _ => 0) [.sc (.pointer none), .sc (.pointer none), .sc (.int .i64 0), .sc (.bool false)] := rfl
    have s1 : ∀ (p y : List AV) (u : Nat → Nat) (n i : Nat) (z : AV), n = p.length + 256 + i → splA (fatC p u y) n [z] = fatC p u (y.set i z) := fun p y u n i z hn => by simp only [splA]; exact fat_set i hn z
    rw [fillA]
    simp only [List.getElem?_cons_zero]
    rw [if_neg (by simp [fat_len]), e0, fillA]
    simp only [List.getElem?_cons_zero, List.getElem?_cons_succ]
    rw [if_neg (by simp [fat_len, tabA_len]), fat_spl (pre := [.bx k g 0]) (n := 1) rfl, fillA]
    simp only [List.getElem?_cons_zero, List.getElem?_cons_succ]
    rw [if_neg (by simp [fat_len]), s1 _ _ _ 257 0 _ rfl, fillA]
    simp only [List.getElem?_cons_zero, List.getElem?_cons_succ]
    rw [if_neg (by simp [fat_len]), s1 _ _ _ 258 1 _ rfl, fillA]
    simp only [List.getElem?_cons_zero, List.getElem?_cons_succ]
    rw [if_neg (by simp [fat_len]), s1 _ _ _ 259 2 _ rfl, fillA]
    rfl
end Go.Proofs.Ytgjpeldgjpgbcaa
