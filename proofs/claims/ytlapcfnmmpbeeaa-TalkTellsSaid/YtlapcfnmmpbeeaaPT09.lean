/- A part of a proof. -/
import Derived.Test.YtlapcfnmmpbeeaaPT06
set_option linter.unusedSimpArgs false
set_option linter.unusedVariables false
namespace Go.Proofs.Ytlapcfnmmpbeeaa
open Go.RowKit
theorem ADX.stor {kx : Nat} {P : Program} {l : List Oper} {K : List AV → List TK → Prop} {o : Oper} {x y : Operand} {z : AV} {zs : List AV} {t : List AV} {st : List TK} {fuel : Nat} {listed : Array Bool} {ty bt : TypeId} {g off : Nat} {cs : List AV} (i : Nat) (hi : l[i]? = some o) (hr : Region.ready .any l.toArray listed = [i]) (hw : WantA l.toArray o t true)
    (ho : o.op = .store ty x y) (hx : evA t x = .bx kx g off) (hk : st[kx]? = some ⟨g, .box bt cs⟩) (hy : evA t y = z) (hz : z.cells? = some zs) (hT : szT P ty = some zs.length)
    (h : ADX kx P l K fuel (listed.setIfInBounds i true) (putA t o.dst (.sc undef)) (st.set kx ⟨g, .box bt (splA cs off zs)⟩)) (hle : off + zs.length ≤ cs.length := by exact Nat.le_of_ble_eq_true rfl) (hl : liveA st z = true := by rfl) : ADX kx P l K (fuel + 1) listed t st := ADX.store i hi hr hw ho hx hk hy hz hl hT hle h
section
variable {P : Program} {o : Oper} {t : List AV} {st : List TK} {x y : Operand} {z : AV} {zs : List AV} {F : Nat → Prop} {ρ : Loc} {w : World} {v : Value} {k g off el sz : Nat} {xs : List (List AV)}
theorem own_cur {b n c : Nat} {vs : List Value} (h : w.ownsRow 0 el sz (.slice (some ⟨b, 0, none⟩) n c) n vs) : ∃ cur, w.heap[b]? = some (.cells cur el (0, 0)) ∧ n ≤ c ∧ cur.size = c * sz ∧ cur.toList.take (n * sz) = vs ∧ vs.length = n * sz := by
  obtain ⟨hl, h⟩ := h
  rcases h with ⟨e, _⟩ | ⟨g', cap, cur, e, _, hg, hn, _, hs, ht⟩
  · cases e
  injection e with e1 _ e3
  injection e1 with e1
  injection e1 with e1
  subst e1 e3
  exact ⟨cur, hg, hn, hs, ht, hl⟩
end
def frameN (t : Nat → Nat) (b : List UInt8) : List UInt8 := leB 4 b.length ++ (leB 4 (ofN t (leB 4 b.length ++ b)) ++ b)
def fget (t : Nat → Nat) (r : List UInt8) : Option (List UInt8) :=
  if r.length < 8 then none else
  if 60000 < num (r.take 4) ∨ r.length < 8 + num (r.take 4) then none else
  if num ((r.drop 4).take 4) = ofN t (r.take 4 ++ (r.drop 8).take (num (r.take 4))) then some ((r.drop 8).take (num (r.take 4))) else none
theorem frameN_len (t : Nat → Nat) (b : List UInt8) : (frameN t b).length = 8 + b.length := by
  unfold frameN
  rw [List.length_append, List.length_append, leB_len, leB_len]
  omega
theorem ofN_lt {t : Nat → Nat} (l : List UInt8) : ofN t l < 4294967296 := by unfold ofN; omega
theorem num_leB4 (u : Nat) (h : u < 4294967296) : num (leB 4 u) = u := by
  rw [num_leB]
  exact Nat.mod_eq_of_lt h
theorem take4_frame (t : Nat → Nat) (b r : List UInt8) : (frameN t b ++ r).take 4 = leB 4 b.length := by
  unfold frameN
  rw [List.append_assoc, List.take_append_of_le_length (by rw [leB_len]; omega), List.take_of_length_le (by rw [leB_len]; omega)]
theorem drop4_frame (t : Nat → Nat) (b r : List UInt8) : (frameN t b ++ r).drop 4 = leB 4 (ofN t (leB 4 b.length ++ b)) ++ (b ++ r) := by
  unfold frameN
  rw [List.append_assoc, List.drop_append_of_le_length (by rw [leB_len]; omega), List.drop_of_length_le (by rw [leB_len]; omega), List.nil_append, List.append_assoc]
theorem drop8_frame (t : Nat → Nat) (b r : List UInt8) : (frameN t b ++ r).drop 8 = b ++ r := by
  rw [show 8 = 4 + 4 from rfl, ← List.drop_drop, drop4_frame, List.drop_append_of_le_length (by rw [leB_len]; omega), List.drop_of_length_le (by rw [leB_len]; omega), List.nil_append]
theorem numApp (a b : List UInt8) : num (a ++ b) = num a + 256 ^ a.length * num b := by
  induction a with
  | nil => simp [num]
  | cons x a ih =>
    show x.toNat + 256 * num (a ++ b) = (x.toNat + 256 * num a) + 256 ^ (a.length + 1) * num b
    rw [ih, Nat.pow_succ, Nat.mul_add, Nat.mul_comm (256 ^ a.length) 256, Nat.mul_assoc, Nat.add_assoc]
theorem numTake (l : List UInt8) (k : Nat) (h : k ≤ l.length) : num (l.take k) = num l % 256 ^ k := by
  have hk : (l.take k).length = k := by rw [List.length_take]; omega
  have := numApp (l.take k) (l.drop k)
  rw [List.take_append_drop, hk] at this
  have h2 := num_lt (l.take k)
  rw [hk] at h2
  rw [this, Nat.add_mul_mod_self_left, Nat.mod_eq_of_lt h2]
theorem numDrop (l : List UInt8) (k : Nat) (h : k ≤ l.length) : num (l.drop k) = num l / 256 ^ k := by
  have hk : (l.take k).length = k := by rw [List.length_take]; omega
  have := numApp (l.take k) (l.drop k)
  rw [List.take_append_drop, hk] at this
  have h2 := num_lt (l.take k)
  rw [hk] at h2
  rw [this, Nat.add_mul_div_left _ _ (Nat.pow_pos (by omega)), Nat.div_eq_of_lt h2, Nat.zero_add]
theorem numInj {a b : List UInt8} (hl : a.length = b.length) (h : num a = num b) : a = b := by
  rw [← leB_num a, ← leB_num b, hl, h]
theorem xor_low (a k z : Nat) : (a ^^^ (2 ^ k * z)) % 2 ^ k = a % 2 ^ k := by
  rw [Nat.xor_mod_two_pow, Nat.mul_mod_right, Nat.xor_zero]
theorem xor_high (a k z : Nat) : (a ^^^ (2 ^ k * z)) / 2 ^ k = a / 2 ^ k ^^^ z := by
  rw [← Nat.shiftRight_eq_div_pow, Nat.shiftRight_xor_distrib, Nat.shiftRight_eq_div_pow, Nat.shiftRight_eq_div_pow, Nat.mul_comm, Nat.mul_div_cancel _ (Nat.pow_pos (by omega))]
theorem xor_ne (a d : Nat) (h : d ≠ 0) : a ^^^ d ≠ a := by
  intro e; apply h
  have := congrArg (a ^^^ ·) e
  simpa [← Nat.xor_assoc] using this
theorem flip_parts (b lx : List UInt8) (hlen : lx.length = 8 + b.length) (at_ m E : Nat) (hn : num lx = num (frameN byteN b) ^^^ (2 ^ at_ * m)) (hm : m < 2 ^ (E - at_)) (h : (32 ≤ at_ ∧ at_ < 64 ∧ E = 64) ∨ 64 ≤ at_) :
    lx.take 4 = leB 4 b.length ∧ num ((lx.drop 4).take 4) = num ((frameN byteN b).drop 4 |>.take 4) ^^^ (if 64 ≤ at_ then 0 else 2 ^ (at_ - 32) * m) ∧ num (lx.drop 8) = num b ^^^ (if 64 ≤ at_ then 2 ^ (at_ - 64) * m else 0) := by
  have hfl := frameN_len byteN b
  have h4 : (frameN byteN b).take 4 = leB 4 b.length := by have := take4_frame byteN b []; rwa [List.append_nil] at this
  have h8 : (frameN byteN b).drop 8 = b := by have := drop8_frame byteN b []; rwa [List.append_nil, List.append_nil] at this
  have p4 : (256 : Nat) ^ 4 = 2 ^ 32 := by decide
  have p8 : (256 : Nat) ^ 8 = 2 ^ 64 := by decide
  refine ⟨numInj (by rw [List.length_take, leB_len]; omega) ?_, ?_, ?_⟩
  · rw [← h4, numTake _ _ (by omega), numTake _ _ (by omega), hn, p4, show 2 ^ at_ * m = 2 ^ 32 * (2 ^ (at_ - 32) * m) by rw [← Nat.mul_assoc, ← Nat.pow_add]; congr 2; omega, xor_low]
  · rw [numTake _ _ (by rw [List.length_drop]; omega), numTake _ _ (by rw [List.length_drop]; omega), numDrop _ _ (by omega), numDrop _ _ (by omega), hn, p4, show 2 ^ at_ * m = 2 ^ 32 * (2 ^ (at_ - 32) * m) by rw [← Nat.mul_assoc, ← Nat.pow_add]; congr 2; omega, xor_high, Nat.xor_mod_two_pow]
    congr 1
    split
    · rename_i h64
      rw [show 2 ^ (at_ - 32) * m = 2 ^ 32 * (2 ^ (at_ - 64) * m) by rw [← Nat.mul_assoc, ← Nat.pow_add]; congr 2; omega, Nat.mul_mod_right]
    rename_i h64
    apply Nat.mod_eq_of_lt
    have hE : E - at_ = 32 - (at_ - 32) := by omega
    rw [hE] at hm
    calc 2 ^ (at_ - 32) * m < 2 ^ (at_ - 32) * 2 ^ (32 - (at_ - 32)) := Nat.mul_lt_mul_of_pos_left hm (Nat.pow_pos (by omega))
      _ = 2 ^ 32 := by rw [← Nat.pow_add]; congr 1; omega
  have hb8 : num b = num (frameN byteN b) / 256 ^ 8 := by rw [← numDrop _ _ (by omega), h8]
  rw [numDrop _ _ (by omega), hn, hb8, p8]
  split
  · rename_i h64
    rw [show 2 ^ at_ * m = 2 ^ 64 * (2 ^ (at_ - 64) * m) by rw [← Nat.mul_assoc, ← Nat.pow_add]; congr 2; omega, xor_high]
  rename_i h64
  rw [← Nat.shiftRight_eq_div_pow, ← Nat.shiftRight_eq_div_pow, Nat.shiftRight_xor_distrib, Nat.shiftRight_eq_div_pow (2 ^ at_ * m), Nat.div_eq_of_lt]
  have hE : E - at_ = 64 - at_ := by omega
  rw [hE] at hm
  calc 2 ^ at_ * m < 2 ^ at_ * 2 ^ (64 - at_) := Nat.mul_lt_mul_of_pos_left hm (Nat.pow_pos (by omega))
    _ = 2 ^ 64 := by rw [← Nat.pow_add]; congr 1; omega
theorem flip_fget (b lx : List UInt8) (hb : b.length ≤ 60000) (hlen : lx.length = 8 + b.length) (at_ m E : Nat) (hn : num lx = num (frameN byteN b) ^^^ (2 ^ at_ * m)) (hm : m < 2 ^ (E - at_)) (hm2 : m < 4294967296)
    (h : (32 ≤ at_ ∧ at_ < 64 ∧ E = 64) ∨ (64 ≤ at_ ∧ at_ ≤ 64 + 8 * b.length)) : fget byteN lx = if m = 0 then some b else none := by
  obtain ⟨h4, hs, hd⟩ := flip_parts b lx hlen at_ m E hn hm (by omega)
  have hfl := frameN_len byteN b
  have hC : num ((frameN byteN b).drop 4 |>.take 4) = ofN byteN (leB 4 b.length ++ b) := by
    have := drop4_frame byteN b []
    rw [List.append_nil, List.append_nil] at this
    rw [this, List.take_append_of_le_length (by rw [leB_len]; omega), List.take_of_length_le (by rw [leB_len]; omega), num_leB4 _ (ofN_lt _)]
  have hdl : (lx.drop 8).length = b.length := by rw [List.length_drop]; omega
  unfold fget
  rw [if_neg (by omega), h4, num_leB4 _ (by omega), if_neg (by omega), List.take_of_length_le (l := lx.drop 8) (by omega), hs, hC]
  by_cases h0 : m = 0
  · subst h0
    have hdb : lx.drop 8 = b := numInj hdl (by rw [hd]; split <;> simp)
    rw [hdb, if_pos rfl, if_pos (by split <;> simp)]
  rw [if_neg h0, if_neg]
  by_cases h64 : 64 ≤ at_
  · rw [if_pos h64] at hd
    rw [if_pos h64, Nat.xor_zero]
    have ht := tells (moreN byteN 4294967295 (leB 4 b.length)) (lx.drop 8) b (at_ - 64) m hdl (by omega) hm2 hd
    intro e; apply h0; apply ht.1
    unfold ofN at e
    rw [moreN_append, moreN_append] at e
    have x1 := moreN_lt (t := byteN) (fun _ h => byteN_lt h) (leB 4 b.length) (s := 4294967295) (by omega)
    have x2 := moreN_lt (t := byteN) (fun _ h => byteN_lt h) b x1
    have x3 := moreN_lt (t := byteN) (fun _ h => byteN_lt h) (lx.drop 8) x1
    omega
  rw [if_neg h64] at hd
  rw [if_neg h64]
  have hdb : lx.drop 8 = b := numInj hdl (by rw [hd, Nat.xor_zero])
  rw [hdb]
  exact xor_ne _ _ (Nat.mul_ne_zero (Nat.ne_of_gt (Nat.pow_pos (by omega))) h0)
end Go.Proofs.Ytlapcfnmmpbeeaa
