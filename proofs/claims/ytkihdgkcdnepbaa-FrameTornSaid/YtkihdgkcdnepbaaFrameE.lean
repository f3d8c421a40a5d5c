/- Many frames, cut off anywhere, plain. No conditions. -/
import Derived.Test.YtkihdgkcdnepbaaFrameS
namespace Go.Proofs.Ytkihdgkcdnepbaa
set_option linter.unusedSimpArgs false
set_option linter.unusedVariables false

/-- The frames of all rows, one behind the other. -/
def catF (t : Nat → Nat) (rs : List (List UInt8)) : List UInt8 := rs.flatMap (frameN t)
/-- Where the first k end. -/
def endF (t : Nat → Nat) (rs : List (List UInt8)) (k : Nat) : Nat := (catF t (rs.take k)).length

theorem catF_snoc (t : Nat → Nat) (rs : List (List UInt8)) (r : List UInt8) : catF t (rs ++ [r]) = catF t rs ++ frameN t r := by unfold catF; simp
theorem endF_succ (t : Nat → Nat) (rs : List (List UInt8)) (k : Nat) (h : k < rs.length) : endF t rs (k + 1) = endF t rs k + 8 + rs[k].length := by
  unfold endF
  rw [List.take_succ_eq_append_getElem h, catF_snoc, List.length_append, frameN_len]
  omega
theorem endF_mono (t : Nat → Nat) (rs : List (List UInt8)) {j k : Nat} (h : j ≤ k) : endF t rs j ≤ endF t rs k := by
  induction k with
  | zero => obtain rfl : j = 0 := by omega
            exact Nat.le_refl _
  | succ k ih =>
    rcases Nat.lt_or_ge j (k + 1) with h1 | h1
    · refine Nat.le_trans (ih (by omega)) ?_
      rcases Nat.lt_or_ge k rs.length with h2 | h2
      · rw [endF_succ t rs k h2]; omega
      · unfold endF; rw [List.take_of_length_le (by omega), List.take_of_length_le (by omega)]; exact Nat.le_refl _
    · obtain rfl : j = k + 1 := by omega
      exact Nat.le_refl _
theorem endF_zero (t : Nat → Nat) (rs : List (List UInt8)) : endF t rs 0 = 0 := rfl
theorem endF_all (t : Nat → Nat) (rs : List (List UInt8)) : endF t rs rs.length = (catF t rs).length := by unfold endF; rw [List.take_of_length_le (Nat.le_refl _)]

/-- What is left behind the first k frames. -/
theorem catF_drop (t : Nat → Nat) (rs : List (List UInt8)) (k : Nat) : (catF t rs).drop (endF t rs k) = catF t (rs.drop k) := by
  have h : catF t rs = catF t (rs.take k) ++ catF t (rs.drop k) := by
    conv => lhs; rw [← List.take_append_drop k rs]
    unfold catF; rw [List.flatMap_append]
  unfold endF
  rw [h, List.drop_left' rfl]

/-- At the end of the first k, cut at c: the frame is there if it is whole, else nothing is. -/
theorem fget_cut (t : Nat → Nat) (rs : List (List UInt8)) (hr : ∀ r ∈ rs, r.length ≤ 60000) (c k : Nat) (hk : k < rs.length) (hc : endF t rs k ≤ c) :
    fget t (((catF t rs).take c).drop (endF t rs k)) = if endF t rs (k + 1) ≤ c then some rs[k] else none := by
  rw [List.drop_take, catF_drop, endF_succ t rs k hk]
  obtain ⟨d, rfl⟩ : ∃ d, c = endF t rs k + d := ⟨c - endF t rs k, by omega⟩
  rw [Nat.add_sub_cancel_left]
  have hcat : catF t (rs.drop k) = frameN t rs[k] ++ catF t (rs.drop (k + 1)) := by
    rw [List.drop_eq_getElem_cons hk]; unfold catF; rw [List.flatMap_cons]
  have hrk := hr rs[k] (List.getElem_mem hk)
  generalize rs[k] = b at *
  generalize catF t (rs.drop (k + 1)) = z at *
  rw [hcat]
  have hfl := frameN_len t b
  split
  · rename_i h
    rw [List.take_append, List.take_of_length_le (by omega), fget_frame t b _ hrk]
  · rename_i h
    have hd : d < 8 + b.length := by omega
    rw [List.take_append_of_le_length (by omega)]
    unfold fget
    rw [List.length_take, hfl]
    split
    · rfl
    · rename_i h8
      have h4 : ((frameN t b).take d).take 4 = leB 4 b.length := by
        rw [List.take_take, Nat.min_eq_left (by omega)]
        have := take4_frame t b []
        rwa [List.append_nil] at this
      rw [h4, num_leB4 _ (by omega), if_pos (by omega)]
theorem fget_short (t : Nat → Nat) (r : List UInt8) (h : r.length < 8) : fget t r = none := by unfold fget; rw [if_pos h]

/-- Just the whole ones are there. -/
theorem scan_cut (t : Nat → Nat) (rs : List (List UInt8)) (hr : ∀ r ∈ rs, r.length ≤ 60000) (c m : Nat) (hm : m ≤ rs.length) (hc : endF t rs m ≤ c) (hcl : c ≤ (catF t rs).length) (hno : m < rs.length → c < endF t rs (m + 1)) :
    ∀ j f, j ≤ m → m - j < f → scanF t ((catF t rs).take c) f (endF t rs j) = ((rs.take m).drop j, endF t rs m) := by
  intro j f hj hf
  induction f generalizing j with
  | zero => omega
  | succ f ih =>
    rcases Nat.lt_or_ge j m with h1 | h1
    · have hle : endF t rs (j + 1) ≤ c := Nat.le_trans (endF_mono t rs (by omega)) hc
      have hg := fget_cut t rs hr c j (by omega) (Nat.le_trans (endF_mono t rs (by omega)) hc)
      rw [if_pos hle] at hg
      rw [scan_some hg, show endF t rs j + 8 + rs[j].length = endF t rs (j + 1) from (endF_succ t rs j (by omega)).symm, ih (j + 1) (by omega) (by omega)]
      have hd : (rs.take m).drop j = rs[j] :: (rs.take m).drop (j + 1) := by
        rw [List.drop_eq_getElem_cons (l := rs.take m) (i := j) (by rw [List.length_take]; omega), List.getElem_take]
      rw [hd]
    · obtain rfl : j = m := by omega
      have hn : fget t (((catF t rs).take c).drop (endF t rs j)) = none := by
        rcases Nat.lt_or_ge j rs.length with h2 | h2
        · rw [fget_cut t rs hr c j h2 hc, if_neg (by have := hno h2; omega)]
        · obtain rfl : j = rs.length := by omega
          apply fget_short
          rw [List.length_drop, List.length_take, endF_all]
          omega
      rw [scan_none hn, List.drop_of_length_le (by rw [List.length_take]; omega)]
theorem scanN_cut (t : Nat → Nat) (rs : List (List UInt8)) (hr : ∀ r ∈ rs, r.length ≤ 60000) (c m : Nat) (hm : m ≤ rs.length) (hc : endF t rs m ≤ c) (hcl : c ≤ (catF t rs).length) (hno : m < rs.length → c < endF t rs (m + 1)) :
    scanN t ((catF t rs).take c) = (rs.take m, endF t rs m) := by
  have hmc : m ≤ c := by
    have : ∀ k, k ≤ rs.length → k ≤ endF t rs k := by
      intro k
      induction k with
      | zero => intro _; exact Nat.zero_le _
      | succ k ih => intro hk; rw [endF_succ t rs k (by omega)]; have := ih (by omega); omega
    exact Nat.le_trans (this m hm) hc
  have := scan_cut t rs hr c m hm hc hcl hno 0 (((catF t rs).take c).length + 1) (by omega) (by rw [List.length_take]; omega)
  rwa [endF_zero, List.drop_zero] at this
end Go.Proofs.Ytkihdgkcdnepbaa
