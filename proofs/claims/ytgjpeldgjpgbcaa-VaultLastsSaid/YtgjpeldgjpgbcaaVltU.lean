/- A vault on a disk, plain: the invariant of VaultTurns' loop. No conditions. -/
import Derived.Test.YtgjpeldgjpgbcaaVltT
namespace Go.Proofs.Ytgjpeldgjpgbcaa
set_option linter.unusedSimpArgs false
set_option linter.unusedVariables false
open Go.RowKit

structure VJ (i : Nat) (F : Files) (d : DiskD) (E c : Nat) (hh : List UInt8) (rs : List (List UInt8)) : Prop where
  rest : Rest 150000 (20 * i + 4) F d
  fused : d.fused = false
  si : SI byteN F 0 c E hh
  le : E ≤ i
  sc : (scanN byteN (F (vfile E))).1 = rs
  rn : rs.length ≤ i
  rl : ∀ r ∈ rs, r.length ≤ 400
  sz : ∀ j, j < 4 → (F j).length ≤ 500 * i
theorem tot_le {F : Files} {m : Nat} (h : ∀ j, j < 4 → (F j).length ≤ m) : tot F ≤ 4 * m := by
  have a := h 0 (by omega); have b := h 1 (by omega); have c := h 2 (by omega); have e := h 3 (by omega)
  unfold tot
  omega
section
variable {i : Nat} {F : Files} {d : DiskD} {E c : Nat} {hh : List UInt8} {rs : List (List UInt8)}
theorem VJ.opened (h : VJ i F d E c hh rs) : openR byteN d (vfile E) = 0 ∧ (openD byteN d (vfile E)).fused = false ∧ ∃ F1, Rest 150000 (20 * i + 5) F1 (openD byteN d (vfile E)) ∧ SI byteN F1 0 c E hh ∧ F1 (vfile E) = rs.flatMap (frameN byteN) ∧ ∀ j, j < 4 → (F1 j).length ≤ 500 * i := by
  have hf := vfile_23 E
  obtain ⟨a, b, e⟩ := h.rest.open_calm (t := byteN) (vfile_lt E) h.fused
  refine ⟨a, e, _, b, h.si.other ⟨by omega, by omega⟩, by rw [upd_eq, scanN_take, h.sc], fun j hj => ?_⟩
  have := h.sz j hj
  unfold upd
  split
  · rename_i e2
    subst e2
    exact Nat.le_trans (List.length_take_le' _ _) this
  · exact this
/-- Behind Add and Sync, whatever fuse is set: what Fold starts from. -/
structure VM (i : Nat) (F : Files) (d : DiskD) (E c : Nat) (hh : List UInt8) (rs : List (List UInt8)) : Prop where
  rest : Rest 150000 (20 * i + 6) F d
  si : SI byteN F 0 c E hh
  lg : F (vfile E) = rs.flatMap (frameN byteN)
  sz : ∀ j, j < 4 → (F j).length ≤ 500 * i + 408
theorem VM.fuse (h : VM i F d E c hh rs) (n : Int) (hn : n < 9223372036854775808) : VM i F (fuseD d n) E c hh rs := ⟨h.rest.fuse n hn, h.si, h.lg, h.sz⟩
theorem VM.folded (h : VM i F d E c hh rs) {L : LogD} (hL : L.file = ((vfile E : Nat) : Int)) (hLd : L.down = false) (hE : E ≤ 20) (hi : i ≤ 12) {x : List UInt8} (hx : x.length ≤ 400) (keep : Int) :
    ∃ F', Rest 150000 (20 * i + 10) F' (crashD (foldO byteN ⟨((vfile E : Nat) : Int), false⟩ ⟨0, c, E, hh, false⟩ L d (vfile E) c E x).d keep) ∧ (∀ j, j < 4 → (F' j).length ≤ 500 * (i + 1)) ∧
      ((¬ (foldO byteN ⟨((vfile E : Nat) : Int), false⟩ ⟨0, c, E, hh, false⟩ L d (vfile E) c E x).r = 0 ∧ SI byteN F' 0 c E hh ∧ F' (vfile E) = rs.flatMap (frameN byteN)) ∨ (SI byteN F' 0 (1 - c) (E + 1) x ∧ F' (vfile (E + 1)) = [])) := by
  have ht := tot_le h.sz
  obtain ⟨F', a, b, e⟩ := fold_crash (t := byteN) h.rest h.si hL hLd (by omega) (x := x) (by omega) (by omega) keep
  refine ⟨F', a, fun j hj => ?_, ?_⟩
  · have := h.sz j hj
    rcases b j with b | b
    · rw [b]; omega
    · omega
  · rcases e with ⟨e1, e2, e3⟩ | e
    · exact .inl ⟨e1, e2, e3.trans h.lg⟩
    · exact .inr e
theorem VJ.closed {F : Files} {d : DiskD} (h : Rest 150000 (20 * i + 10) F d) (hfu : d.fused = false) (hs : SI byteN F 0 c E hh) (hE : E ≤ i + 1) (hl : F (vfile E) = rs.flatMap (frameN byteN)) (hn : rs.length ≤ i + 1) (hr : ∀ r ∈ rs, r.length ≤ 400) (hz : ∀ j, j < 4 → (F j).length ≤ 500 * (i + 1)) :
    openR byteN d (vfile E) = 0 ∧ ∃ F', VJ (i + 1) F' (openD byteN d (vfile E)) E c hh rs := by
  have hf := vfile_23 E
  obtain ⟨a, b, e⟩ := h.open_calm (t := byteN) (vfile_lt E) hfu
  have hsc := scanN_frames (t := byteN) fget_nil rs fun r hr' => Nat.le_trans (hr r hr') (by omega)
  rw [List.append_nil] at hsc
  refine ⟨a, _, b.mono (by omega), e, hs.other ⟨by omega, by omega⟩, hE, ?_, hn, hr, fun j hj => ?_⟩
  · rw [upd_eq, scanN_take, hl, hsc, hsc]
  · have := hz j hj
    unfold upd
    split
    · rename_i e2
      subst e2
      exact Nat.le_trans (List.length_take_le' _ _) this
    · exact this
/-- Open, Add, Sync at a round's head. -/
theorem VJ.added (h : VJ i F d E c hh rs) (hi : i < 12) {L : LogD} (hL : L.file = ((vfile E : Nat) : Int)) (hLd : L.down = false) {b : List UInt8} (hb : b.length ≤ 400) :
    vaddR byteN ⟨((vfile E : Nat) : Int), false⟩ L (openD byteN d (vfile E)) b = 0 ∧ vsyncR ⟨((vfile E : Nat) : Int), false⟩ (vaddL byteN ⟨((vfile E : Nat) : Int), false⟩ L (openD byteN d (vfile E)) b) (vaddD byteN ⟨((vfile E : Nat) : Int), false⟩ L (openD byteN d (vfile E)) b) = 0 ∧
      ∃ F2, VM i F2 (vsyncD ⟨((vfile E : Nat) : Int), false⟩ (vaddL byteN ⟨((vfile E : Nat) : Int), false⟩ L (openD byteN d (vfile E)) b) (vaddD byteN ⟨((vfile E : Nat) : Int), false⟩ L (openD byteN d (vfile E)) b)) E c hh (rs ++ [b]) := by
  have hf := vfile_23 E
  obtain ⟨_, o2, F1, o3, o4, o5, o6⟩ := h.opened
  have ht := tot_le o6
  obtain ⟨a1, _, _, _, a5, _, _, _, a9, _⟩ := calm_add (t := byteN) o3 o2 (vfile_lt E) hL hLd (b := b) (by omega) (by omega)
  refine ⟨a1, a5, _, a9, o4.other ⟨by omega, by omega⟩, ?_, fun j hj => ?_⟩
  · rw [upd_eq, o5, List.flatMap_append]; simp
  · have := o6 j hj
    unfold upd
    split
    · rename_i e2
      subst e2
      rw [List.length_append, frameN_len]; omega
    · omega
end
end Go.Proofs.Ytgjpeldgjpgbcaa
