/- Code, walks: Get of the package code, its reference. Conditions: slices shorter than 2^62. -/
import Derived.Test.YtpkjlmaphhileaaDoorCodeG
namespace Go.Proofs.YtpkjlmaphhileaaDoor
set_option linter.unusedSimpArgs false
set_option linter.unusedVariables false
set_option maxRecDepth 100000
open Go.RowKit

set_option maxHeartbeats 1000000 in
theorem get_any (A : Option Addr) (n c : Nat) (l : List UInt8) (at_ f : Int) (w : World) (h : Rd w w.heap.size 1 A n (bvs l)) (hn : n ≤ 4611686018427387904) :
    Calls Tryd.prog 59 #[.slice A n c, .int .i64 at_, .int .i64 f] w fun e w' => e = .returned (t3 (getN l at_ f)) ∧ w = w' := by
  have hl := h.blen
  have H := Lib.hid h
  clear h
  by_cases gf : f = 1 ∨ f = 2
  · have e0 : (f == 1 || f == 2) = true := by simpa using gf
    by_cases g1 : at_ < 0
    · have d1 := decT g1
      have HF := Lib.hid (show getN l at_ f = (0, 0, 2) by unfold getN; rw [if_pos (by omega)])
      go_enter Tryd.func59, Tryd.ntmps59
      go_wp2_with fail
      (with_reducible refine (right_any f _).mono ?_)
      rintro e w' ⟨rfl, rfl⟩
      rw [e0]
      go_wp2_with fail
      go_ret3
      exact ⟨by rw [HF.out]; rfl, rfl⟩
    · have d1 := decF g1
      by_cases g2 : (n : Int) < at_
      · have d2 := decT g2
        have HF := Lib.hid (show getN l at_ f = (0, 0, 2) by unfold getN; rw [if_pos (by omega)])
        go_enter Tryd.func59, Tryd.ntmps59
        go_wp2_with fail
        (with_reducible refine (right_any f _).mono ?_)
        rintro e w' ⟨rfl, rfl⟩
        rw [e0]
        go_wp2_with fail
        go_ret3
        exact ⟨by rw [HF.out]; rfl, rfl⟩
      · have d2 := decF g2
        have HF := Lib.hid (show getN l at_ f = if f = 1 then fixG l at_.toNat else varG l at_.toNat by unfold getN; rw [if_neg (by omega)])
        obtain ⟨k, rfl⟩ : ∃ k : Nat, at_ = k := ⟨at_.toNat, by omega⟩
        rw [Int.toNat_natCast] at HF
        by_cases g3 : f = 1
        · have e1 : (f == 1) = true := by simp [g3]
          have HF2 := Lib.hid (HF.out.trans (if_pos g3))
          clear gf g3
          go_enter Tryd.func59, Tryd.ntmps59
          go_wp2_with fail
          (with_reducible refine (right_any f _).mono ?_)
          rintro e w' ⟨rfl, rfl⟩
          rw [e0]
          go_wp2_with fail
          (with_reducible refine (getFixed_any A n c l k _ rfl _ H.out hn (by omega)).mono ?_)
          rintro e w' ⟨rfl, rfl⟩
          generalize fixG l k = p at *
          unfold t3
          go_wp2_with fail
          go_ret3
          exact ⟨by rw [HF2.out]; rfl, rfl⟩
        · have e1 : (f == 1) = false := by simp [g3]
          have HF2 := Lib.hid (HF.out.trans (if_neg g3))
          clear gf g3
          go_enter Tryd.func59, Tryd.ntmps59
          go_wp2_with fail
          (with_reducible refine (right_any f _).mono ?_)
          rintro e w' ⟨rfl, rfl⟩
          rw [e0]
          go_wp2_with fail
          (with_reducible refine (getVary_any A n c l k _ rfl _ H.out hn (by omega)).mono ?_)
          rintro e w' ⟨rfl, rfl⟩
          generalize varG l k = p at *
          unfold t3
          go_wp2_with fail
          go_ret3
          exact ⟨by rw [HF2.out]; rfl, rfl⟩
  · have e0 : (f == 1 || f == 2) = false := by simpa using gf
    have HF := Lib.hid (show getN l at_ f = (0, 0, 2) by unfold getN; rw [if_pos (by omega)])
    go_enter Tryd.func59, Tryd.ntmps59
    go_wp2_with fail
    (with_reducible refine (right_any f _).mono ?_)
    rintro e w' ⟨rfl, rfl⟩
    rw [e0]
    go_wp2_with fail
    go_ret3
    exact ⟨by rw [HF.out]; rfl, rfl⟩
end Go.Proofs.YtpkjlmaphhileaaDoor
