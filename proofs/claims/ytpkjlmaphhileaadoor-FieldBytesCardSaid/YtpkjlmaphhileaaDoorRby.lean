/- Pieces of bytes that are read; a reader of all bytes; what of a field a statement's guard lets through. No conditions. -/
import Derived.Test.YtpkjlmaphhileaaDoorFbP
import Derived.Test.YtpkjlmaphhileaaDoorOpF
namespace Go.Proofs.YtpkjlmaphhileaaDoor
set_option linter.unusedSimpArgs false
set_option linter.unusedVariables false
set_option maxRecDepth 100000
open Go.RowKit

theorem rd_byr_from {P : Program} {o : Oper} {t : List AV} {st : List TK} {T e : Nat} {x lo : Operand} {l : List UInt8} {m : Nat} {ik : IntKind} {I : Int} (ho : o.op = .slice T x (some lo) none none) (hT : elT P T = some (e, 1)) (hx : evA t x = .sl (byA l)) (hy : evV t lo = some (.int ik I)) (hI : I = (m : Int)) (hm : m ≤ l.length) : ARd P o t st (.sl (byA (l.drop m))) := by
  have := rd_slice_sl (P := P) (st := st) (n := (byA l).length) ho hT hx byA_one ⟨_, _, hy, hI⟩ rfl (by rw [byA_len]; exact hm) (Nat.le_refl _)
  rwa [List.take_of_length_le (Nat.le_refl _), byA_drop] at this
theorem rdP_byr_from {P : Program} {o : Oper} {t : List AV} {st : List TK} {T e : Nat} {x lo : Operand} {l : List UInt8} {m : Nat} {ik : IntKind} {I : Int} (ho : o.op = .slice T x (some lo) none none) (hT : elT P T = some (e, 1)) (hx : evA t x = .sl (byA l)) (hy : evV t lo = some (.int ik I)) (hI : I = (m : Int)) (hm : m ≤ l.length) : ARdP P o t st (.sl (byA (l.drop m))) := by
  have := rdP_slice_sl (P := P) (st := st) (n := (byA l).length) ho hT hx byA_one ⟨_, _, hy, hI⟩ rfl (by rw [byA_len]; exact hm) (Nat.le_refl _)
  rwa [List.take_of_length_le (Nat.le_refl _), byA_drop] at this
theorem okFld.wf {x : FldD} (h : okFld x) : x.Wf := by
  obtain ⟨⟨h1, _⟩, h2, _, _, h3⟩ := h
  have a := bounds_i64 h1; have b := bounds_i64 h2; have c := bounds_i64 h3
  exact ⟨by unfold i64R; omega, by unfold i64R; omega, by unfold i64R; omega⟩
theorem endP_at {r : RdrD} {f : Int} {p : List UInt8} (h : r.At f p []) : endP r = 0 := by
  unfold endP
  rw [h.nb, left_at h]
  simp
section
variable {b : List UInt8} {f : Int} (hf : okF f = true)
include hf
theorem newR_g (b : List UInt8) : RdG b f (newR b f) 0 := ⟨rfl, rfl, rfl, by show (!okF f) = false; rw [hf]; rfl⟩
end
theorem heavyF_light {x : FldD} (h : heavyF x = false) : x.Light := by
  obtain ⟨h1, h2, h3, h4, h5⟩ := heavyF_f h
  exact ⟨h1, h2, h3, h4, h5⟩
end Go.Proofs.YtpkjlmaphhileaaDoor
