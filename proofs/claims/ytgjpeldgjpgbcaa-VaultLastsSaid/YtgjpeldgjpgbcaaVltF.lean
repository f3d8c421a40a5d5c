/- Fold, walked over abstract states, outcome by outcome. -/
import Derived.Test.YtgjpeldgjpgbcaaVltE
import Derived.Test.YtgjpeldgjpgbcaaJa
namespace Go.Proofs.Ytgjpeldgjpgbcaa
set_option linter.unusedSimpArgs false
set_option linter.unusedVariables false
set_option maxRecDepth 100000
open Go.RowKit

def VltT5 (gv gs gl G h : Nat) (t : Nat → Nat) (V : VltD) (S : SltD) (L : LogD) (d : DiskD) : List TK := VltT gv gs gl G t V S L d ++ [⟨h, .off⟩]
/-- A log on file f, told of the disk by ticket n. -/
def logC (n G : Nat) (t : Nat → Nat) (L : LogD) : TC := .box 111 (fatC [.bx n G 0] t [.sc (.int .i64 L.file), .sc (.bool L.down), .sc (.int .i64 L.records), .sc (.int .i64 L.used), .sc (.int .i64 L.fresh)])
def vltC (G gs kl gl : Nat) (t : Nat → Nat) (V : VltD) : TC := .box 126 (fatC [.bx 3 G 0] t [.bx 1 gs 0, .bx kl gl 0, .sc (.int .i64 V.file), .sc (.bool V.down)])
def sltC (G : Nat) (t : Nat → Nat) (S : SltD) : TC := .box 119 (fatC [.bx 3 G 0] t [.sc (.int .i64 S.file), .sc (.int .i64 S.counts), .sc (.int .i64 S.epoch), .sl (byA S.bytes), .sc (.bool S.down)])
section
variable (gv gs gl G h : Nat) (t : Nat → Nat) (ht : ∀ i, i < 256 → t i < 4294967296) (V : VltD) (S : SltD) (L : LogD) {k : Nat} (d : DiskD) (hd : d.Ok k) (hk : k ≤ 800000) (f : Nat)
theorem vready_l (hdk : d.dark = false) : ACo Try.prog 88 [.bx 0 gv 0] (VltT gv gs gl G t ⟨f, false⟩ S L d) (fun y os' => y = .sc (.int .i64 0) ∧ os' = VltT gv gs gl G t ⟨f, false⟩ S L d) := by
  have := vready_c gv gs gl G t ⟨f, false⟩ S L d
  rw [hdk] at this
  exact this
theorem vready_x (hdn : (V.down || d.dark) = true) : ACo Try.prog 88 [.bx 0 gv 0] (VltT gv gs gl G t V S L d) (fun y os' => y = .sc (.int .i64 10) ∧ os' = VltT gv gs gl G t ⟨V.file, true⟩ S L d) := by
  have := vready_c gv gs gl G t V S L d
  rw [if_pos hdn, hdn] at this
  exact this
theorem vheard_0 : ACo Try.prog 89 [.bx 0 gv 0, .sc (.int .i64 0)] (VltT gv gs gl G t ⟨f, false⟩ S L d) (fun y os' => y = .sc (.int .i64 0) ∧ os' = VltT gv gs gl G t ⟨f, false⟩ S L d) := vheard_c gv gs gl G t ⟨f, false⟩ S L d 0
theorem vheard_10 : ACo Try.prog 89 [.bx 0 gv 0, .sc (.int .i64 10)] (VltT gv gs gl G t ⟨f, false⟩ S L d) (fun y os' => y = .sc (.int .i64 10) ∧ os' = VltT gv gs gl G t ⟨f, true⟩ S L d) := vheard_c gv gs gl G t ⟨f, false⟩ S L d 10
theorem vheard_l (c : Int) : ACo Try.prog 89 [.bx 0 gv 0, .sc (.int .i64 c)] (VltT gv gs gl G t ⟨f, false⟩ S L d) (fun y os' => y = .sc (.int .i64 c) ∧ os' = VltT gv gs gl G t ⟨f, decide (c = 10)⟩ S L d) := by
  have := vheard_c gv gs gl G t ⟨f, false⟩ S L d c
  simpa using this
theorem vfold_dn (b : List UInt8) (hdn : (V.down || d.dark) = true) : ACo Try.prog 64 [.bx 0 gv 0, .sl (byA b)] (VltT gv gs gl G t V S L d) (fun y os' => y = .sc (.int .i64 10) ∧ os' = VltT gv gs gl G t ⟨V.file, true⟩ S L d) := by
  refine ACo.of' (st0 := [⟨gv, .box 126 (fatC [.bx 3 G 0] t [.bx 1 gs 0, .bx 2 gl 0, .sc (.int .i64 V.file), .sc (.bool V.down)])⟩, ⟨gs, .box 119 (fatC [.bx 3 G 0] t [.sc (.int .i64 S.file), .sc (.int .i64 S.counts), .sc (.int .i64 S.epoch), .sl (byA S.bytes), .sc (.bool S.down)])⟩, ⟨gl, .box 111 (fatC [.bx 3 G 0] t [.sc (.int .i64 L.file), .sc (.bool L.down), .sc (.int .i64 L.records), .sc (.int .i64 L.used), .sc (.int .i64 L.fresh)])⟩, ⟨G, .obj (DiskP d)⟩]) 75 0 Try.func64 rfl 4 ?_
  refine AW.seq ?_
  refine AW.region ?_
  refine AL.ra ?_
  refine AL.nil ?_
  change AW _ _ _ _ _
  refine AW.seq ?_
  refine AW.seq ?_
  refine AW.region ?_
  refine AL.rm ?_
  refine AL.op rfl (calloV (vready_x gv gs gl G t V S L d hdn) [0, 1, 2, 3] ?_)
  rintro y os' ⟨rfl, rfl⟩
  refine AL.noV ?_
  refine AL.ra ?_
  refine AL.nil ?_
  change AW _ _ _ _ _
  refine AW.seq ?_
  refine AW.region ?_
  refine AL.rm ?_
  refine AL.r (rd_bin rfl rfl rfl (fun _ => rfl)) ?_
  refine AL.nil ?_
  change AW _ _ _ _ _
  refine AW.cond_t rfl ?_
  refine AW.seq ?_
  refine AW.region ?_
  refine AL.rm ?_
  refine AL.ra ?_
  refine AL.nil ?_
  change AW _ _ _ _ _
  refine AW.ret ?_
  repeat with_reducible first | refine thenA_ret ?_ | refine inBlockA_ret ?_
  with_reducible first | refine retO_ret ?_ | refine retO_normal ?_
  refine reso1V rfl (ResV.tmp rfl) rfl ?_
  exact ⟨rfl, rfl⟩
variable (hf : f = 2 ∨ f = 3)
include hf hd hk
theorem vfold_cut (b : List UInt8) (hdk : d.dark = false) (hc : cutR d (5 - f) 0 = 10) : ACo Try.prog 64 [.bx 0 gv 0, .sl (byA b)] (VltT5 gv gs gl G h t ⟨f, false⟩ S L d) (fun y os' => y = .sc (.int .i64 10) ∧ os' = VltT5 gv gs gl G h t ⟨f, true⟩ S L (cutD d (5 - f) 0)) := by
  refine ACo.of' (st0 := [⟨gv, .box 126 (fatC [.bx 3 G 0] t [.bx 1 gs 0, .bx 2 gl 0, .sc (.int .i64 (f : Int)), .sc (.bool false)])⟩, ⟨gs, .box 119 (fatC [.bx 3 G 0] t [.sc (.int .i64 S.file), .sc (.int .i64 S.counts), .sc (.int .i64 S.epoch), .sl (byA S.bytes), .sc (.bool S.down)])⟩, ⟨gl, .box 111 (fatC [.bx 3 G 0] t [.sc (.int .i64 L.file), .sc (.bool L.down), .sc (.int .i64 L.records), .sc (.int .i64 L.used), .sc (.int .i64 L.fresh)])⟩, ⟨G, .obj (DiskP d)⟩, ⟨h, .off⟩]) 75 0 Try.func64 rfl 5 ?_
  refine AW.seq ?_
  refine AW.region ?_
  refine AL.ra ?_
  refine AL.nil ?_
  change AW _ _ _ _ _
  refine AW.seq ?_
  refine AW.seq ?_
  refine AW.region ?_
  refine AL.rm ?_
  refine AL.op rfl (calloV (vready_l gv gs gl G t S L d f hdk) [0, 1, 2, 3] ?_)
  rintro y os' ⟨rfl, rfl⟩
  refine AL.noV ?_
  refine AL.ra ?_
  refine AL.nil ?_
  change AW _ _ _ _ _
  refine AW.seq ?_
  refine AW.region ?_
  refine AL.rm ?_
  refine AL.r (rd_bin rfl rfl rfl (fun _ => rfl)) ?_
  refine AL.nil ?_
  change AW _ _ _ _ _
  refine AW.cond_f rfl ?_
  refine AW.skip ?_
  change AW _ _ _ _ _
  refine AW.seq ?_
  refine AW.region ?_
  refine AL.rm ?_
  refine AL.r (rd_nilc_bx rfl rfl rfl) ?_
  refine AL.r (rd_faddr_bx rfl fo_126_4 rfl rfl ⟨_, _, rfl⟩) ?_
  refine AL.r (rd_load_bx rfl ag_3 rfl rfl (fat_post 2 rfl rfl)) ?_
  refine AL.r (rd_arith_sub rfl rfl rfl (show IntKind.i64.wrap (5 - (f : Int)) = ((5 - f : Nat) : Int) by rw [IntWalk.i64_in _ (by omega)]; omega)) ?_
  refine AL.ra ?_
  refine AL.nil ?_
  change AW _ _ _ _ _
  refine AW.seq ?_
  refine AW.seq ?_
  refine AW.region ?_
  refine AL.rm ?_
  refine AL.rm ?_
  refine AL.r (rd_nilc_bx rfl rfl rfl) ?_
  refine AL.r (rd_faddr_bx rfl fo_126_0 rfl rfl ⟨_, _, rfl⟩) ?_
  refine AL.r (rd_load_bx rfl ag_25 rfl rfl (fat_pre rfl)) ?_
  refine AL.rm ?_
  refine AL.op rfl (calloV (lval (ok_cut2 hd (by omega) G (5 - f) (by omega) 0) hc) [3] ?_)
  rintro y os' ⟨rfl, rfl⟩
  refine AL.noV ?_
  refine AL.op rfl (calloV (vheard_10 gv gs gl G t S L (cutD d (5 - f) 0) f) [0, 1, 2, 3] ?_)
  rintro y os' ⟨rfl, rfl⟩
  refine AL.noV ?_
  refine AL.ra ?_
  refine AL.nil ?_
  change AW _ _ _ _ _
  refine AW.seq ?_
  refine AW.region ?_
  refine AL.rm ?_
  refine AL.r (rd_bin rfl rfl rfl (fun _ => rfl)) ?_
  refine AL.nil ?_
  change AW _ _ _ _ _
  refine AW.cond_t rfl ?_
  refine AW.seq ?_
  refine AW.region ?_
  refine AL.rm ?_
  refine AL.ra ?_
  refine AL.nil ?_
  change AW _ _ _ _ _
  refine AW.ret ?_
  repeat with_reducible first | refine thenA_ret ?_ | refine inBlockA_ret ?_
  with_reducible first | refine retO_ret ?_ | refine retO_normal ?_
  refine reso1V rfl (ResV.tmp rfl) rfl ?_
  exact ⟨rfl, rfl⟩
end
end Go.Proofs.Ytgjpeldgjpgbcaa
