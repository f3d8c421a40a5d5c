/- punnetref07.Scan, walked. No conditions. -/
import Derived.Test.YtkihdgkcdnepbaaFrameT
namespace Go.Proofs.Ytkihdgkcdnepbaa
set_option linter.unusedSimpArgs false
set_option linter.unusedVariables false
open Go.RowKit

theorem Rd.rowOk {w : World} {Bd n c : Nat} {A : Option Addr} {l : List UInt8} {own : Option Nat} (h : Rd w Bd 1 A n (bvs l)) (hB : Bd ≤ w.heap.size) (hnc : n ≤ c) (hc : c ≤ maxLen) (ho : ∀ g, own = some g → Bd ≤ g) : RowOk w own (.slice A n c) l := by
  refine ⟨A, n, c, rfl, hnc, hc, h.more hB, fun hn ad ha e => ?_⟩
  obtain ⟨b, off, e2, hb, _⟩ := h.2 hn
  rw [ha] at e2
  injection e2 with e2
  subst e2
  have := ho _ e
  simp at this
  omega

set_option maxHeartbeats 2000000 in
theorem rscan_any (A0 : Option Addr) (n0 c0 : Nat) (l0 : List UInt8) (t : Nat → Nat) (ht : ∀ i, i < 256 → t i < 4294967296) (w : World)
    (h0 : Rd w w.heap.size 1 A0 n0 (bvs l0)) (hnc : n0 ≤ c0) (hn0 : n0 ≤ 1000000000000) (hc63 : c0 ≤ maxLen) :
    Calls Try.prog 33 #[.slice A0 n0 c0, .agg (tabCells t)] w (RetS w (scanN t l0)) := by
  have hl0 := h0.blen
  have R0 := Lib.hid h0
  have B0 := Lib.hid ((Below.refl w.heap.size w).alloc (Nat.le_refl _) (Obj.cells (tabCells t) 26))
  have HG0 := Lib.hid (heap_alloc_new w (Obj.cells (tabCells t) 26))
  have hg0 : ((w.alloc (Obj.cells (tabCells t) 26)).alloc (Obj.cells #[] 22)).heap[w.heap.size]? = some (Obj.cells (tabCells t) 26) := (Below.heap_alloc _ _ _ (by simp)).trans HG0.out
  have ho0 := OwnR.empty (base := w.heap.size + 1) (w.alloc (Obj.cells (tabCells t) 26)) (by simp)
  rw [World.size_alloc] at ho0
  clear h0
  go_enter Try.func33, Try.ntmps33
  go_wp2_with fail
  go_loopw [6, 7] (fun s6 s7 wr => ∃ (k f n' c' : Nat) (A' : Option Addr) (rs : List (List UInt8)), s6 = .slice A' n' c' ∧ s7 = .int .i64 k ∧ k ≤ n0 ∧ n0 < k + f ∧ n' ≤ k ∧ scanN t l0 = (rs ++ (scanF t l0 f k).1, (scanF t l0 f k).2) ∧ OwnR wr (w.heap.size + 1) A' n' c' rs ∧ Below w.heap.size w wr ∧ wr.heap[w.heap.size]? = some (Obj.cells (tabCells t) 26)) (fun _ s7 _ => n0 + 1 - (intOf s7).toNat)
  case atStart => exact ⟨0, n0 + 1, 0, 0, _, [], rfl, rfl, by omega, by omega, by omega, by unfold scanN; rw [hl0]; simp, ho0, B0.out.alloc B0.out.size _, hg0⟩
  case round =>
    obtain ⟨k, f, n', c', A', rs, rfl, rfl, hk, hf, hn', hS, hO, hB, hg⟩ := hrel
    have HS := Lib.hid hS
    have O3 := Lib.hid hO
    have B3 := Lib.hid hB
    have HG3 := Lib.hid hg
    clear hS hO hB hg
    go_wp2_with (first | (with_reducible refine wpList_load_row rfl 26 _ rfl w.heap.size rfl 26 (tabCells t) (0, 0) _ HG3.out Try.underlying26 rfl (tab_row t) ?_))
    (with_reducible refine (rgetF_any _ _ _ l0 k t ht _ w.heap.size B3.out.size (R0.out.below B3.out (Nat.le_refl _)) hk hnc hn0 hc63).mono ?_)
    rintro e w5 ⟨hb5, he⟩
    have B35 := Lib.hid hb5
    have B5 := Lib.hid (B3.out.trans (hb5.mono B3.out.size))
    clear hb5
    cases hfg : fget t (l0.drop k) with
    | none =>
      rw [hfg] at he
      obtain rfl := he
      have HE := Lib.hid (scan_none (f := f) hfg)
      clear hfg
      go_wp2_with fail
      go_ret2
      refine ⟨A', n', c', ?_, ?_, B5.out⟩
      · rw [HS.out, HE.out]; rfl
      · rw [HS.out, HE.out, List.append_nil]
        exact (O3.out.base_le (Nat.le_succ _)).below B35.out
    | some b =>
      rw [hfg] at he
      obtain ⟨A5, n5, c5, rfl, hn5, hc5, rd5⟩ := he
      obtain ⟨hk2, f', hf', hS'⟩ := scan_step (by omega) (by omega) HS.out hfg
      have HS' := Lib.hid hS'
      have RK : Hid (RowOk w5 (Value.slice A' n' c').ownBlock (.slice A5 n5 c5) b) := Lib.hid ((rd5.below B35.out B3.out.size).rowOk (Nat.le_trans B3.out.size B35.out.size) hn5 hc5 fun g hg => Nat.le_of_succ_le (O3.out.lt g hg).1)
      have h1 : w.heap.size < wr.heap.size := (Array.getElem?_eq_some_iff.1 HG3.out).1
      have h2 := B35.out.size
      clear hfg hS' rd5
      go_wp2_with (first | (at_builtin; (with_reducible refine wpList_appR _ rfl _ _ rfl (w.heap.size + 1) _ _ _ _ rfl (O3.out.below B35.out) _ b rfl RK.out (by omega) ?_ ?_)))
      · omega
      intro A7 c7 w7 ho7 hg7
      have B7 := Lib.hid ((B5.out.alloc B5.out.size _).grown hg7 (by simp; exact Nat.le_succ_of_le B5.out.size) fun g hg => Nat.le_of_succ_le (O3.out.lt g hg).1)
      have HG5 := Lib.hid (blk_keep HG3.out B35.out)
      have HG7 : Hid (w7.heap[w.heap.size]? = some (Obj.cells (tabCells t) 26)) := Lib.hid (by
        rw [hg7.block w.heap.size (by simp; omega) (fun e => by have := (O3.out.lt _ e.symm).1; omega)]
        exact (Below.heap_alloc w5 _ _ (by omega)).trans HG5.out)
      have O7 := Lib.hid ho7
      clear ho7 hg7
      go_wp2
      go_roundw
      case rel => exact ⟨k + 8 + b.length, f', _, _, _, rs ++ [b], rfl, rfl, by omega, by omega, by omega, HS'.out, O7.out, B7.out, HG7.out⟩
      case measure => simp [intOf]; omega
end Go.Proofs.Ytkihdgkcdnepbaa
