/- A part of a proof. -/
import Derived.Deep.AppendLies
import Derived.Deep.Draws
import Derived.Deep.MidRow
import Derived.Deep.RegionHeld3
import Derived.Handy
import Derived.Lib.Hide
import Derived.Maps.AppendAt
import Derived.ScopeJumps
import Derived.Test.YtlapcfnmmpbeeaaProg
import Derived.WalkKit
import Derived.WalkLawsBesides
import Derived.WalkMore
import Derived.WalkSpells
import Derived.Test.YtlapcfnmmpbeeaaPT02
set_option linter.unusedSimpArgs false
set_option linter.unusedVariables false
namespace Go.Proofs.Ytlapcfnmmpbeeaa
open Go.RowKit
def Rd (w : World) (B size : Nat) (A : Option Addr) (n : Nat) (xs : List Value) : Prop :=
  xs.length = n * size ∧ (0 < n → ∃ b off, A = some ⟨b, off, none⟩ ∧ b < B ∧ ∀ j, j < xs.length → w.cell? ⟨b, off + j, none⟩ = xs[j]?)
section
variable {w w' : World} {B B' size n : Nat} {A : Option Addr} {xs : List Value}
theorem Rd.keep (h : Rd w B size A n xs) (hk : ∀ p : Addr, p.block < B → w'.cell? p = w.cell? p) : Rd w' B size A n xs :=
  ⟨h.1, fun hn => by
    obtain ⟨b, off, e, hb, hc⟩ := h.2 hn
    exact ⟨b, off, e, hb, fun j hj => (hk ⟨b, off + j, none⟩ hb).trans (hc j hj)⟩⟩
theorem Rd.more (h : Rd w B size A n xs) (hB : B ≤ B') : Rd w B' size A n xs :=
  ⟨h.1, fun hn => by
    obtain ⟨b, off, e, hb, hc⟩ := h.2 hn
    exact ⟨b, off, e, by omega, hc⟩⟩
theorem Rd.below {C : Nat} (h : Rd w B size A n xs) (hb : Below C w w') (hC : B ≤ C) : Rd w' B size A n xs := h.keep fun _ hp => hb.cell (Nat.lt_of_lt_of_le hp hC)
theorem Rd.below' (h : Rd w w.heap.size size A n xs) (hb : Below w.heap.size w w') : Rd w' w'.heap.size size A n xs := (h.below hb (Nat.le_refl _)).more hb.size
theorem Rd.len1 (h : Rd w B 1 A n xs) : xs.length = n := by simpa using h.1
end
def bv (b : UInt8) : Value := .int .u8 b.toNat
def bvs (l : List UInt8) : List Value := l.map bv
theorem bvs_len (l : List UInt8) : (bvs l).length = l.length := by simp [bvs]
theorem bvs_append (a b : List UInt8) : bvs (a ++ b) = bvs a ++ bvs b := by simp [bvs]
theorem bvs_one (l : List UInt8) : ∀ u ∈ bvs l, u.oneCell' = true := by
  intro u hu; obtain ⟨_, _, rfl⟩ := List.mem_map.1 hu; rfl
theorem Rd.laid (w : World) (C : Array Value) (e : TypeId) (fr : Nat × Nat) (n : Nat) (xs : List Value) (hn : xs.length = n) (hx : C.toList = xs) :
    Rd (w.alloc (.cells C e fr)) (w.alloc (.cells C e fr)).heap.size 1 (some ⟨w.heap.size, 0, none⟩) n xs := by
  subst hx
  refine ⟨by simpa using hn, fun _ => ⟨w.heap.size, 0, rfl, by simp, fun j _ => ?_⟩⟩; rw [Nat.zero_add, cell_of_row _ _ _ _ e fr (heap_alloc_new w _)]; simp
theorem Rd.byte {w : World} {B n : Nat} {A : Option Addr} {l : List UInt8} (h : Rd w B 1 A n (bvs l)) {k : Nat} (hk : k < n) :
    ∃ (b off : Nat) (hl : k < l.length), A = some ⟨b, off, none⟩ ∧ b < B ∧ w.cell? ⟨b, off + k, none⟩ = some (.int .u8 (l[k].toNat : Nat)) ∧ l[k].toNat < 256 := by
  have hl : l.length = n := by have := h.len1; rwa [bvs_len] at this
  obtain ⟨b, off, e, hb, hc⟩ := h.2 (by omega)
  refine ⟨b, off, by omega, e, hb, ?_, UInt8.toNat_lt _⟩; rw [hc k (by rw [bvs_len]; omega), bvs, List.getElem?_map, List.getElem?_eq_getElem (by omega)]; rfl
theorem Rd.blen {w : World} {B n : Nat} {A : Option Addr} {l : List UInt8} (h : Rd w B 1 A n (bvs l)) : l.length = n := by have := h.len1; rwa [bvs_len] at this
theorem foldl_snoc_take {α β : Type} (f : β → α → β) (s : β) (l : List α) (k : Nat) (h : k < l.length) : (l.take (k + 1)).foldl f s = f ((l.take k).foldl f s) l[k] := by
  rw [List.take_succ_eq_append_getElem h, List.foldl_append]; rfl
theorem ret_int {k : IntKind} {a b : Int} (h : a = b) : Ending.returned (.int k a) = .returned (.int k b) := by rw [h]
theorem int_eq {k : IntKind} {a b : Int} (h : a = b) : Value.int k a = .int k b := by rw [h]
theorem decT {p : Prop} [Decidable p] (h : p) : decide p = true := by simp [h]
theorem decF {p : Prop} [Decidable p] (h : ¬ p) : decide p = false := by simp [h]
theorem not64_nat (S : Nat) (h : S < 18446744073709551616) : 18446744073709551615 ^^^ S = 18446744073709551615 - S := by
  apply Nat.eq_of_testBit_eq; intro i
  rw [show 18446744073709551615 - S = 2 ^ 64 - (S + 1) by omega, Nat.testBit_two_pow_sub_succ (by omega), Nat.testBit_xor, show 18446744073709551615 = 2 ^ 64 - 1 by omega, Nat.testBit_two_pow_sub_one]
  by_cases hi : i < 64
  · simp [hi]
  simp [hi, Nat.testBit_lt_two_pow (Nat.lt_of_lt_of_le (show S < 2 ^ 64 by omega) (Nat.pow_le_pow_right (by omega) (Nat.le_of_not_lt hi)))]
theorem not64 (S : Nat) (h : S < 18446744073709551616) : bits .xor .u64 IntKind.u64.max (S : Int) = ((18446744073709551615 - S : Nat) : Int) := by
  have e : IntKind.u64.max = ((18446744073709551615 : Nat) : Int) := by decide
  rw [e, u64_xor_nat _ _ (by omega) h, not64_nat S h]
theorem noti64 (x : Int) (h1 : 0 ≤ x) (h2 : x ≤ 9223372036854775807) : bits .xor .i64 (-1) x = -x - 1 := by
  obtain ⟨n, rfl⟩ : ∃ n : Nat, x = n := ⟨x.toNat, by omega⟩
  show IntKind.i64.wrap ((BitVec.ofInt 64 (-1) ^^^ BitVec.ofInt 64 (n : Int)).toNat : Int) = _
  rw [BitVec.toNat_xor, show (BitVec.ofInt 64 (-1)).toNat = 18446744073709551615 from by decide, ofInt_u64 n (by omega), not64_nat n (by omega), IntKind.wrap_i64]
  omega
set_option maxHeartbeats 400000 in
theorem turn_any (n : Int) (w : World) (h1 : -9223372036854775808 ≤ n) (h2 : n ≤ 9223372036854775807) :
    Calls Try.prog 75 #[.int .i64 n] w fun e w' => e = .returned (.int .u64 (turnN n)) ∧ w = w' := by
  by_cases h : n < 0
  · obtain ⟨X, hX⟩ : ∃ X : Nat, (X : Int) = 2 * n + 18446744073709551616 := ⟨(2 * n + 18446744073709551616).toNat, by omega⟩
    have hx := not64 X (by omega)
    have hw : IntKind.u64.wrap (IntKind.u64.wrap n * 2) = (X : Nat) := by rw [IntKind.wrap_u64, IntKind.wrap_u64]; omega
    have HT := Lib.hid (show (turnN n : Int) = ((18446744073709551615 - X : Nat) : Int) by unfold turnN; rw [if_pos h]; omega)
    clear hX
    go_enter Try.func75, Try.ntmps75
    go_wp2
    go_ret
    exact ⟨ret_int (by rw [HT.out]), rfl⟩
  have HT := Lib.hid (show (turnN n : Int) = 2 * n by unfold turnN; rw [if_neg h]; omega)
  go_enter Try.func75, Try.ntmps75
  go_wp2
  go_ret
  exact ⟨ret_int (by rw [HT.out]; omega), rfl⟩
set_option maxHeartbeats 400000 in
theorem back_any (u : Nat) (ui : Int) (hu : ui = (u : Nat)) (w : World) (h : u < 18446744073709551616) :
    Calls Try.prog 96 #[.int .u64 ui] w fun e w' => e = .returned (.int .i64 (backZ u)) ∧ w = w' := by
  subst hu
  have ha : bits .and .u64 (u : Int) 1 = ((u % 2 : Nat) : Int) := by rw [← nat_mask1]; exact u64_and_nat u 1 h (by omega)
  have hx := noti64 ((u : Int) / 2) (by omega) (by omega)
  by_cases ho : u % 2 = 1
  · have he : ((u : Int) % 2 == 1) = true := by simp; omega
    have HT := Lib.hid (show backZ u = -((u : Int) / 2) - 1 by unfold backZ; rw [if_pos ho]; omega)
    clear ho
    go_enter Try.func96, Try.ntmps96
    go_wp2
    go_ret
    exact ⟨ret_int (by rw [HT.out]), rfl⟩
  have he : ((u : Int) % 2 == 1) = false := by simp; omega
  have HT := Lib.hid (show backZ u = (u : Int) / 2 by unfold backZ; rw [if_neg ho]; omega)
  clear ho
  go_enter Try.func96, Try.ntmps96
  go_wp2
  go_ret
  exact ⟨ret_int (by rw [HT.out]), rfl⟩
set_option maxHeartbeats 400000 in
theorem right_any (f : Int) (w : World) : Calls Try.prog 12 #[.int .i64 f] w fun e w' => e = .returned (.bool (f == 1 || f == 2)) ∧ w = w' := by
  by_cases h1 : f = 1
  · subst h1
    go_enter Try.func12, Try.ntmps12
    go_wp2
    go_ret
    exact ⟨rfl, rfl⟩
  have e1 : (f == 1) = false := by simp [h1]
  go_enter Try.func12, Try.ntmps12
  go_wp2
  go_ret
  exact ⟨by simp [e1], rfl⟩
theorem vary_div (f u : Nat) : (vary f u).length = if u < 128 then 1 else (match f with | 0 => 1 | f + 1 => 1 + (vary f (u / 128)).length) := by
  cases f with
  | zero => simp [vary]
  | succ f => rw [vary]; split <;> simp [Nat.add_comm]
set_option maxHeartbeats 400000 in
theorem size_any (f n : Int) (w : World) (h1 : -9223372036854775808 ≤ n) (h2 : n ≤ 9223372036854775807) :
    Calls Try.prog 74 #[.int .i64 f, .int .i64 n] w fun e w' => e = .returned (.int .i64 ((putN f n).length : Nat)) ∧ w = w' := by
  by_cases g1 : f = 1
  · subst g1
    have HT := Lib.hid (show (putN 1 n).length = 8 by unfold putN; rw [if_pos rfl, leB_len])
    go_enter Try.func74, Try.ntmps74
    go_wp2
    go_ret
    exact ⟨ret_int (by rw [HT.out]; rfl), rfl⟩
  have e1 : (f == 1) = false := by simp [g1]
  by_cases g2 : f = 2
  · subst g2
    have HT := Lib.hid (show (putN 2 n).length = (vary 9 (turnN n)).length by unfold putN; rw [if_neg (by decide), if_pos rfl])
    have hT := turnN_lt h1 h2
    clear e1 g1
    go_enter Try.func74, Try.ntmps74
    go_wp2_with fail
    (with_reducible refine (turn_any n _ h1 h2).mono ?_)
    rintro e w' ⟨rfl, rfl⟩
    generalize turnN n = T at *
    go_wp2_with fail
    go_loop [5, 6] (fun s5 s6 => ∃ k u j : Nat, k + j = 9 ∧ u < 2 * 128 ^ j ∧ s5 = .int .i64 ((k + 1 : Nat) : Int) ∧ s6 = .int .u64 ((u / 128 : Nat) : Int) ∧ (vary 9 T).length = k + (vary j u).length) (fun _ s6 => (intOf s6).toNat)
    case atStart => exact ⟨0, T, 9, rfl, by show T < 2 * 128 ^ 9; omega, rfl, int_eq (by omega), by omega⟩
    case round =>
      obtain ⟨k, u, j, hk, hu, rfl, rfl, hv⟩ := hrel
      have HV := Lib.hid hv
      have HU := Lib.hid hu
      clear hv hu
      by_cases hz : u < 128
      · have HZ := Lib.hid (show (vary j u).length = 1 by rw [vary_div, if_pos hz])
        have hd := decF (show ¬ (0 : Int) < ((u / 128 : Nat) : Int) by omega)
        go_wp2
        go_ret
        exact ⟨ret_int (by rw [HT.out, HV.out, HZ.out]; omega), rfl⟩
      have hd := decT (show (0 : Int) < ((u / 128 : Nat) : Int) by omega)
      obtain ⟨i, rfl⟩ : ∃ i, j = i + 1 := by
        cases j with
        | zero => have := HU.out; simp at this; omega
        | succ i => exact ⟨i, rfl⟩
      have HZ := Lib.hid (show (vary (i + 1) u).length = 1 + (vary i (u / 128)).length by rw [vary_div, if_neg hz])
      have HU2 := Lib.hid (show u / 128 < 2 * 128 ^ i by have := HU.out; rw [Nat.pow_succ] at this; omega)
      go_wp2
      go_round
      case rel => exact ⟨k + 1, u / 128, i, by omega, HU2.out, by go_num, int_eq (by omega), by rw [HV.out, HZ.out]; omega⟩
      case measure => simp [intOf]; omega
  have e2 : (f == 2) = false := by simp [g2]
  have HT := Lib.hid (show (putN f n).length = 0 by unfold putN; rw [if_neg g1, if_neg g2]; rfl)
  clear g1 g2
  go_enter Try.func74, Try.ntmps74
  go_wp2
  go_ret
  exact ⟨ret_int (by rw [HT.out]; rfl), rfl⟩
section
variable {P : Program} {Q : Exit → Act → World → Prop}
theorem jump_mono {l : Nat} {J J' : Act → World → Prop} (h : ∀ a w, J a w → J' a w) : ∀ (e : Exit) (a : Act) (w : World), Exit.jump l J Q e a w → Exit.jump l J' Q e a w := fun e a w hh => by
  cases e with
  | goto l' => exact ⟨hh.1, h a w hh.2⟩
  | _ => exact hh
theorem jump_of {l : Nat} {J : Act → World → Prop} : ∀ (e : Exit) (a : Act) (w : World), Q e a w → (∀ l', e ≠ .goto l') → Exit.jump l J Q e a w := fun e a w h hn => by
  cases e with
  | goto l' => exact absurd rfl (hn l')
  | _ => exact h
theorem wp_scope_goto {c tail : Code} {a : Act} {w : World} (l : Nat) (J : Act → World → Prop) (μ : Act → World → Nat) (hf : findLabel c l = some (Code.skip.seq tail))
    (first : ∀ Qv : Exit → Act → World → Prop, Hid (∀ a w, J a w → tail.wp P Qv a w) → Hid (∀ a w, J a w → Qv (.goto l) a w) → Hid (∀ e a w, Q e a w → (∀ l', e ≠ .goto l') → Qv e a w) → c.wp P Qv a w)
    (pass : ∀ a w, J a w → ∀ Qv : Exit → Act → World → Prop, Hid (∀ a' w', J a' w' → μ a' w' < μ a w → Qv (.goto l) a' w') → Hid (∀ e a w, Q e a w → (∀ l', e ≠ .goto l') → Qv e a w) → tail.wp P Qv a w) : (Code.scope c).wp P Q a w :=
  have pass' : ∀ a w, J a w → tail.wp P (Exit.jump l (fun a' w' => J a' w' ∧ μ a' w' < μ a w) Q) a w := fun a w hJ =>
    pass a w hJ _ (fun _ _ h1 h2 => ⟨rfl, h1, h2⟩) jump_of
  wp_scope_jumps l J μ hf (first _ (fun a w hJ => Code.wp_mono (jump_mono fun _ _ h => h.1) (pass' a w hJ)) (fun _ _ h => ⟨rfl, h⟩) jump_of) fun a w hJ => wp_seq (wp_skip (pass' a w hJ))
theorem jgive {a : Act} {lit : (Nat → Value) → Array Value} {R : (Nat → Value) → Prop} (h : a = { tmps := lit fun i => a.tmps.getD i undef, defers := [] }) (hR : R fun i => a.tmps.getD i undef) :
    ∃ u : Nat → Value, a = { tmps := lit u, defers := [] } ∧ R u := ⟨_, h, hR⟩
end
end Go.Proofs.Ytlapcfnmmpbeeaa
