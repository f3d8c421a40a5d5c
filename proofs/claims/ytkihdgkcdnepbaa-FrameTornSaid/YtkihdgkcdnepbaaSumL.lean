/- Sum: the chapter's example (awake), walked. No conditions. -/
import Derived.Test.YtkihdgkcdnepbaaSumW2
import Derived.Lib.SlBytesConst
namespace Go.Proofs.Ytkihdgkcdnepbaa
set_option linter.unusedSimpArgs false
set_option linter.unusedVariables false
open Go.RowKit
theorem byteN_tab : ∀ i, i < 256 → byteN i < 4294967296 := fun _ h => byteN_lt h
def digits9 : List UInt8 := [49, 50, 51, 52, 53, 54, 55, 56, 57]
theorem ofN_digits9 : ofN byteN digits9 = 3421780262 := by decide +kernel

set_option maxHeartbeats 400000 in
theorem awake06_any (w : World) : Calls Try.prog 13 #[] w fun e w' => e = .returned (.bool true) ∧ Below w.heap.size w w' := by
  have kc := fun (w : World) (C : Array Value) (n c : Nat) => Lib.run_convert_bytes_const (P := Try.prog) w 22 5 C n c Try.underlying22 Try.underlying5
  go_enter Try.func13, Try.ntmps13
  go_wp2_with fail
  (with_reducible refine (make_any _).mono ?_)
  rintro e w' ⟨rfl, hb⟩
  go_wp2_with fail
  (with_reducible refine (of_any byteN byteN_tab _ _ 9 _ digits9 ?hr (by omega)).mono ?_)
  case hr => exact Rd.laid w' _ _ _ 9 _ rfl rfl
  rintro e w2 ⟨rfl, hb2⟩
  rw [ofN_digits9]
  go_wp2
  go_ret
  exact ⟨rfl, (hb.alloc hb.size _).trans (hb2.mono (by simp; exact Nat.le_succ_of_le hb.size))⟩
end Go.Proofs.Ytkihdgkcdnepbaa
