/- frame.Scan, walked. No conditions. -/
import Derived.Test.YtkihdgkcdnepbaaFrameU
import Derived.Test.YtkihdgkcdnepbaaAppV
namespace Go.Proofs.Ytkihdgkcdnepbaa
set_option linter.unusedSimpArgs false
set_option linter.unusedVariables false
open Go.RowKit

def scanF (t : Nat → Nat) (l : List UInt8) : Nat → Nat → List (List UInt8) × Nat
  | 0, at_ => ([], at_)
  | f + 1, at_ => match fget t (l.drop at_) with | none => ([], at_) | some b => (b :: (scanF t l f (at_ + 8 + b.length)).1, (scanF t l f (at_ + 8 + b.length)).2)
/-- All frames from the beginning on, and where they end. -/
def scanN (t : Nat → Nat) (l : List UInt8) : List (List UInt8) × Nat := scanF t l (l.length + 1) 0
theorem scan_none {t : Nat → Nat} {l : List UInt8} {f k : Nat} (h : fget t (l.drop k) = none) : scanF t l f k = ([], k) := by
  cases f with
  | zero => rfl
  | succ f => rw [scanF, h]
theorem scan_some {t : Nat → Nat} {l b : List UInt8} {f k : Nat} (h : fget t (l.drop k) = some b) : scanF t l (f + 1) k = (b :: (scanF t l f (k + 8 + b.length)).1, (scanF t l f (k + 8 + b.length)).2) := by
  rw [scanF, h]
theorem scan_step {t : Nat → Nat} {l b : List UInt8} {f k : Nat} {rs : List (List UInt8)} {S : List (List UInt8) × Nat} (hf : l.length < k + f) (hk : k ≤ l.length) (hS : S = (rs ++ (scanF t l f k).1, (scanF t l f k).2)) (h : fget t (l.drop k) = some b) :
    k + 8 + b.length ≤ l.length ∧ ∃ f', l.length < k + 8 + b.length + f' ∧ S = (rs ++ [b] ++ (scanF t l f' (k + 8 + b.length)).1, (scanF t l f' (k + 8 + b.length)).2) := by
  obtain ⟨h1, h2, _⟩ := fget_some h
  rw [List.length_drop] at h2
  refine ⟨by omega, ?_⟩
  cases f with
  | zero => omega
  | succ f =>
    refine ⟨f, by omega, ?_⟩
    rw [hS, scan_some h]
    simp

theorem OwnB.rowOk {w : World} {base n c : Nat} {A : Option Addr} {l : List UInt8} {own : Option Nat} (h : OwnB w base A n c l) (ho : ∀ g, own = some g → g < base) : RowOk w own (.slice A n c) l := by
  refine ⟨A, n, c, rfl, h.nc, h.cm, h.rd, fun hn ad ha e => ?_⟩
  obtain ⟨g, cap, hv, hgb, _⟩ := h.2.form hn
  injection hv with hv _ _
  rw [ha] at hv
  injection hv with hv
  subst hv
  have := ho _ e
  simp at this
  omega
theorem OwnR.base_le {w : World} {base n c : Nat} {A : Option Addr} {rs : List (List UInt8)} (h : OwnR w base A n c rs) {b' : Nat} (hb : b' ≤ base) : OwnR w b' A n c rs := by
  obtain ⟨vs, h1, h2⟩ := h
  exact ⟨vs, h1.base_le hb, h2⟩
def RetS (w : World) (S : List (List UInt8) × Nat) (e : Ending) (w' : World) : Prop := ∃ A n c, e = .returned (.tuple #[.slice A n c, .int .i64 (S.2 : Nat)]) ∧ OwnR w' w.heap.size A n c S.1 ∧ Below w.heap.size w w'

set_option maxHeartbeats 2000000 in
theorem fscan_any (A0 : Option Addr) (n0 c0 : Nat) (l0 : List UInt8) (t : Nat → Nat) (ht : ∀ i, i < 256 → t i < 4294967296) (w : World)
    (h0 : Rd w w.heap.size 1 A0 n0 (bvs l0)) (hnc : n0 ≤ c0) (hn0 : n0 ≤ 1000000000000) (hc63 : c0 ≤ 9223372036854775807) :
    Calls Try.prog 32 #[.slice A0 n0 c0, .agg (tabCells t)] w (RetS w (scanN t l0)) := by
  have hl0 := h0.blen
  have R0 := Lib.hid h0
  have B0 := Lib.hid ((Below.refl w.heap.size w).alloc (Nat.le_refl _) (Obj.cells (tabCells t) 26))
  have HG0 := Lib.hid (heap_alloc_new w (Obj.cells (tabCells t) 26))
  clear h0
  go_enter Try.func32, Try.ntmps32
  go_wp2_with fail
  refine wp_scope_goto 0 (fun a' w' => ∃ u : Nat → Value, a' = { tmps := #[u 0, u 1, u 2, u 3, u 4, u 5, u 6, u 7, u 8, u 9, u 10, u 11, u 12, u 13, u 14, u 15, u 16, u 17, u 18, u 19, u 20, u 21, u 22, u 23, u 24, u 25, u 26, u 27], defers := [] } ∧ (∃ (k f n' c' : Nat) (A' : Option Addr) (rs : List (List UInt8)), u 0 = .slice A0 n0 c0 ∧ u 3 = .pointer (some ⟨w.heap.size, 0, none⟩) ∧ u 6 = .slice A' n' c' ∧ u 7 = .int .i64 k ∧ k ≤ n0 ∧ n0 < k + f ∧ n' ≤ k ∧ scanN t l0 = (rs ++ (scanF t l0 f k).1, (scanF t l0 f k).2) ∧ OwnR w' (w.heap.size + 1) A' n' c' rs ∧ Below w.heap.size w w' ∧ w'.heap[w.heap.size]? = some (Obj.cells (tabCells t) 26))) (fun a' w' => n0 + 1 - (intOf (a'.tmps.getD 7 undef)).toNat) rfl ?_ ?_
  · intro Qv HG HJ0 HQ
    go_wp2_with fail
    go_step3
    apply_assumption
    refine HG.out _ _ ?_
    refine jgive rfl ?_
    exact ⟨0, n0 + 1, 0, 0, none, [], rfl, rfl, rfl, rfl, by omega, by omega, by omega, by unfold scanN; rw [hl0]; simp, OwnR.nil_ _ _, B0.out, HG0.out⟩
  · rintro a' w' ⟨u, rfl, k, f, n', c', A', rs, hs1, hs2, hs3, hs4, hk, hf, hn', hS, hO, hB, hg⟩
    rw [hs1, hs2, hs3, hs4]
    clear hs1 hs2 hs3 hs4
    intro Qv HJ HQ
    have HS := Lib.hid hS
    have O3 := Lib.hid hO
    have B3 := Lib.hid hB
    have HG3 := Lib.hid hg
    clear hS hO hB hg
    go_wp2_with (first | (with_reducible refine wpList_load_row rfl 26 _ rfl w.heap.size rfl 26 (tabCells t) (0, 0) _ HG3.out Try.underlying26 rfl (tab_row t) ?_))
    (with_reducible refine (fget_any _ _ _ l0 _ t ht _ (R0.out.below' B3.out) hnc (by omega) hc63).mono ?_)
    rintro e w5 ⟨A5, n5, c5, rfl, ho5, hb5⟩
    have HX := Lib.hid (show fgetN t l0 k = match fget t (l0.drop k) with | none => ([], 0, 8) | some b => (b, (k : Int) + 8 + (b.length : Nat), 0) by unfold fgetN; rw [if_neg (by omega), Int.toNat_natCast]; cases fget t (l0.drop k) <;> rfl)
    have O5 := Lib.hid ho5
    have B35 := Lib.hid hb5
    have B5 := Lib.hid (B3.out.trans (hb5.mono B3.out.size))
    clear ho5 hb5
    cases hfg : fget t (l0.drop k) with
    | none =>
      have HX2 : Hid (fgetN t l0 k = ([], 0, 8)) := Lib.hid (by rw [HX.out, hfg])
      have HE := Lib.hid (scan_none (f := f) hfg)
      rw [HX2.out]
      clear hfg
      go_wp2_with fail
      refine HQ.out _ _ _ ?_ (by simp)
      go_ret2
      refine ⟨A', n', c', ?_, ?_, B5.out⟩
      · rw [HS.out, HE.out]; rfl
      · rw [HS.out, HE.out, List.append_nil]
        exact (O3.out.base_le (Nat.le_succ _)).below B35.out
    | some b =>
      have HX2 : Hid (fgetN t l0 k = (b, (k : Int) + 8 + (b.length : Nat), 0)) := Lib.hid (by rw [HX.out, hfg])
      obtain ⟨hk2, f', hf', hS'⟩ := scan_step (by omega) (by omega) HS.out hfg
      have HS' := Lib.hid hS'
      have O6 : Hid (OwnB w5 _ A5 n5 c5 b) := Lib.hid (by have := O5.out; rw [HX2.out] at this; exact this)
      rw [HX2.out]
      clear hfg hS'
      go_wp2_with (first | (at_builtin; (with_reducible refine wpList_appR _ rfl _ _ rfl (w.heap.size + 1) _ _ _ _ rfl (O3.out.below B35.out) _ b rfl (O6.out.rowOk fun g hg => (O3.out.lt g hg).2) (by omega) ?_ ?_)))
      · have := B5.out.size; have := O3.out; have h1 : w.heap.size < w'.heap.size := (Array.getElem?_eq_some_iff.1 HG3.out).1; have h2 := B35.out.size; omega
      intro A7 c7 w7 ho7 hg7
      have h1 : w.heap.size < w'.heap.size := (Array.getElem?_eq_some_iff.1 HG3.out).1
      have B7 := Lib.hid ((B5.out.alloc B5.out.size _).grown hg7 (by simp; exact Nat.le_succ_of_le B5.out.size) fun g hg => Nat.le_of_succ_le (O3.out.lt g hg).1)
      have HG5 := Lib.hid (blk_keep HG3.out B35.out)
      have HG7 : Hid (w7.heap[w.heap.size]? = some (Obj.cells (tabCells t) 26)) := Lib.hid (by
        rw [hg7.block w.heap.size (by have := B35.out.size; simp; omega) (fun e => by have := (O3.out.lt _ e.symm).1; omega)]
        exact (Below.heap_alloc w5 _ _ (by have := B35.out.size; omega)).trans HG5.out)
      have O7 := Lib.hid ho7
      clear ho7 hg7
      go_wp2_with fail
      go_step3
      refine HJ.out _ _ ?_ ?_
      · refine jgive rfl ?_
        exact ⟨k + 8 + b.length, f', _, _, _, rs ++ [b], rfl, rfl, rfl, int_eq (by omega), by omega, by omega, by omega, HS'.out, O7.out, B7.out, HG7.out⟩
      · simp [intOf]; omega
end Go.Proofs.Ytkihdgkcdnepbaa
