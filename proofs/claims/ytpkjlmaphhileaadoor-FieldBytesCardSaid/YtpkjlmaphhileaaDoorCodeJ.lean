/- The law CodePuts, walked. No conditions. -/
import Derived.Test.YtpkjlmaphhileaaDoorCodeI
namespace Go.Proofs.YtpkjlmaphhileaaDoor
set_option linter.unusedSimpArgs false
set_option linter.unusedVariables false
open Go.RowKit

theorem str_cat (a b : List UInt8) : ((⟨a.toArray⟩ : ByteArray) ++ ⟨b.toArray⟩).toList = a ++ b := by
  have : ((⟨a.toArray⟩ : ByteArray) ++ ⟨b.toArray⟩) = ⟨(a ++ b).toArray⟩ := by
    apply ByteArray.ext
    simp
  rw [this]
  simp
theorem getN_put (l2 l3 : List UInt8) (f z : Int) (h1 : -9223372036854775808 ≤ z) (h2 : z ≤ 9223372036854775807) (hf : f = 1 ∨ f = 2) :
    getN (l2 ++ putN f z ++ l3) (l2.length : Nat) f = (z, ((l2.length + (putN f z).length : Nat) : Int), 0) := by
  have hd : (l2 ++ putN f z ++ l3).drop l2.length = putN f z ++ l3 := by rw [List.append_assoc, List.drop_left]
  unfold getN
  rw [if_neg (by rw [List.length_append, List.length_append]; omega), Int.toNat_natCast]
  rcases hf with rfl | rfl
  · have hp : putN 1 z = leB 8 (u64N z) := by unfold putN; rw [if_pos rfl]
    have hpl : (putN 1 z).length = 8 := by rw [hp, leB_len]
    rw [if_pos rfl, fixG, hd, if_neg (by rw [List.length_append]; omega), List.take_append_of_le_length (by omega), List.take_of_length_le (by omega), hp, num_leB, leB_len]
    have e : u64N z % 256 ^ 8 = u64N z := Nat.mod_eq_of_lt (u64N_lt z)
    rw [e, i64Z_u64N h1 h2]
    simp
  · have hp : putN 2 z = vary 9 (turnN z) := by unfold putN; rw [if_neg (by decide), if_pos rfl]
    rw [if_neg (by decide), varG, hd, hp, gv0_vary _ _ (turnN_lt h1 h2)]
    show (backZ (turnN z), _, _) = _
    rw [backZ_turnN]

end Go.Proofs.YtpkjlmaphhileaaDoor
