/- Frame, plain: a frame's bytes, and how they are read. No conditions. -/
import Derived.Test.YtgjpeldgjpgbcaaCodeP
namespace Go.Proofs.Ytgjpeldgjpgbcaa
set_option linter.unusedSimpArgs false
set_option linter.unusedVariables false

def frameN (t : Nat → Nat) (b : List UInt8) : List UInt8 := leB 4 b.length ++ (leB 4 (ofN t (leB 4 b.length ++ b)) ++ b)
def fget (t : Nat → Nat) (r : List UInt8) : Option (List UInt8) :=
  if r.length < 8 then none else
  if 60000 < num (r.take 4) ∨ r.length < 8 + num (r.take 4) then none else
  if num ((r.drop 4).take 4) = ofN t (r.take 4 ++ (r.drop 8).take (num (r.take 4))) then some ((r.drop 8).take (num (r.take 4))) else none

theorem frameN_len (t : Nat → Nat) (b : List UInt8) : (frameN t b).length = 8 + b.length := by
  unfold frameN
  rw [List.length_append, List.length_append, leB_len, leB_len]
  omega
theorem ofN_lt {t : Nat → Nat} (l : List UInt8) : ofN t l < 4294967296 := by unfold ofN; omega
theorem num_leB4 (u : Nat) (h : u < 4294967296) : num (leB 4 u) = u := by
  rw [num_leB]
  exact Nat.mod_eq_of_lt h
theorem take4_frame (t : Nat → Nat) (b r : List UInt8) : (frameN t b ++ r).take 4 = leB 4 b.length := by
  unfold frameN
  rw [List.append_assoc, List.take_append_of_le_length (by rw [leB_len]; omega), List.take_of_length_le (by rw [leB_len]; omega)]
theorem drop4_frame (t : Nat → Nat) (b r : List UInt8) : (frameN t b ++ r).drop 4 = leB 4 (ofN t (leB 4 b.length ++ b)) ++ (b ++ r) := by
  unfold frameN
  rw [List.append_assoc, List.drop_append_of_le_length (by rw [leB_len]; omega), List.drop_of_length_le (by rw [leB_len]; omega), List.nil_append, List.append_assoc]
theorem drop8_frame (t : Nat → Nat) (b r : List UInt8) : (frameN t b ++ r).drop 8 = b ++ r := by
  rw [show 8 = 4 + 4 from rfl, ← List.drop_drop, drop4_frame, List.drop_append_of_le_length (by rw [leB_len]; omega), List.drop_of_length_le (by rw [leB_len]; omega), List.nil_append]
theorem fget_frame (t : Nat → Nat) (b r : List UInt8) (hb : b.length ≤ 60000) : fget t (frameN t b ++ r) = some b := by
  have hl := frameN_len t b
  have h4 := take4_frame t b r
  have hn : num ((frameN t b ++ r).take 4) = b.length := by rw [h4, num_leB4 _ (by omega)]
  have hb8 : ((frameN t b ++ r).drop 8).take b.length = b := by rw [drop8_frame, List.take_append_of_le_length (by omega), List.take_of_length_le (by omega)]
  have hs : ((frameN t b ++ r).drop 4).take 4 = leB 4 (ofN t (leB 4 b.length ++ b)) := by
    rw [drop4_frame, List.take_append_of_le_length (by rw [leB_len]; omega), List.take_of_length_le (by rw [leB_len]; omega)]
  unfold fget
  rw [if_neg (by rw [List.length_append]; omega), hn, if_neg (by rw [List.length_append]; omega), hb8, hs, h4, num_leB4 _ (ofN_lt _), if_pos rfl]
theorem split8 (r : List UInt8) (n : Nat) (h : 8 + n ≤ r.length) : r.take (8 + n) = r.take 4 ++ ((r.drop 4).take 4 ++ (r.drop 8).take n) := by
  conv => lhs; rw [show 8 + n = 4 + (4 + n) by omega, List.take_add, List.take_add, List.drop_drop]
/-- The reference looks for the frame by framing what stands there. -/
theorem frame_iff (t : Nat → Nat) (r : List UInt8) (h : 8 + num (r.take 4) ≤ r.length) :
    frameN t ((r.drop 8).take (num (r.take 4))) = r.take (8 + num (r.take 4)) ↔ num ((r.drop 4).take 4) = ofN t (r.take 4 ++ (r.drop 8).take (num (r.take 4))) := by
  have h4l : (r.take 4).length = 4 := by rw [List.length_take]; omega
  have hbl : ((r.drop 8).take (num (r.take 4))).length = num (r.take 4) := by rw [List.length_take, List.length_drop]; omega
  have hle : leB 4 (num (r.take 4)) = r.take 4 := by have := leB_num (r.take 4); rwa [h4l] at this
  have h44 : ((r.drop 4).take 4).length = 4 := by rw [List.length_take, List.length_drop]; omega
  have hle2 : leB 4 (num ((r.drop 4).take 4)) = (r.drop 4).take 4 := by have := leB_num ((r.drop 4).take 4); rwa [h44] at this
  unfold frameN
  rw [hbl, hle, split8 r _ h]
  constructor
  · intro e
    have e1 := List.append_cancel_left e
    have e2 := List.append_cancel_right e1
    rw [← e2, num_leB4 _ (ofN_lt _)]
  · intro e
    rw [← e, hle2]
/-- Whatever is read stands there as a frame. -/
theorem fget_some {t : Nat → Nat} {r b : List UInt8} (h : fget t r = some b) : b.length ≤ 60000 ∧ 8 + b.length ≤ r.length ∧ r = frameN t b ++ r.drop (8 + b.length) := by
  unfold fget at h
  split at h
  · cases h
  · rename_i h1
    split at h
    · cases h
    · rename_i h2
      split at h
      · rename_i h3
        injection h with h
        subst h
        have hbl : ((r.drop 8).take (num (r.take 4))).length = num (r.take 4) := by rw [List.length_take, List.length_drop]; omega
        refine ⟨by omega, by omega, ?_⟩
        rw [(frame_iff t r (by omega)).2 h3, hbl, List.take_append_drop]
      · cases h
end Go.Proofs.Ytgjpeldgjpgbcaa
