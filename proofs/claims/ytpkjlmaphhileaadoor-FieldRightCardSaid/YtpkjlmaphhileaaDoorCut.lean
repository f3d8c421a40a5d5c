/- In a drawn region: what comes behind is walked once, whatever the order ahead of it. No conditions. -/
import Derived.Test.YtpkjlmaphhileaaDoorSh
namespace Go.Proofs.YtpkjlmaphhileaaDoor
set_option linter.unusedSimpArgs false
set_option linter.unusedVariables false
open Go.RowKit

theorem ADB.cut {P : Program} {l : List Oper} {K : List AV → List TK → Prop} {fuel fuel2 : Nat} {listed listed2 : Array Bool} {t t2 : List AV} {st st2 : List TK} (h : ADB P l K fuel2 listed2 t2 st2 → ADB P l K fuel listed t st) (key : ADB P l K fuel2 listed2 t2 st2) : ADB P l K fuel listed t st := h key
theorem ADB.use {P : Program} {l : List Oper} {K : List AV → List TK → Prop} {fuel fuel2 : Nat} {listed listed2 : Array Bool} {t t2 : List AV} {st st2 : List TK} (key : ADB P l K fuel2 listed2 t2 st2) (hf : fuel = fuel2 := by rfl) (hl : listed = listed2 := by kernel_rfl) (ht : t = t2 := by rfl) (hs : st = st2 := by rfl) : ADB P l K fuel listed t st := by
  subst hf hl ht hs
  exact key
end Go.Proofs.YtpkjlmaphhileaaDoor
