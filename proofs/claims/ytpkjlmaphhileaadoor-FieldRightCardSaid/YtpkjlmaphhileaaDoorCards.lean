/-
  DERIVED. GIVEN WITH THE SEED: THE CARDS: each row of YtpkjlmaphhileaaDoorRows.lean that lists a variable, with what it lists TIED to the program's text (the seventh form; the later family's looks); each row that meets fmt, with fmt's text TOLD by the authors' own Lean function (tested against real Go, not proved from fmt's source: count such statements apart). THE CARD IS WHAT COUNTS. Prove the row's statement (the work); the ties are given (YtpkjlmaphhileaaDoorTie.lean); close each card by the builder's one call (the guide's Derived/Test/ToyasCard.lean, 'card_holds'). Laid BY PROGRAM, IN A SANDBOX (cutbox-door.mjs). By AI agents, Wed Nov 11 2026. No macro, syntax, notation, axiom, sorry.
-/
import Derived.Test.YtpkjlmaphhileaaDoorRows
import GoSem.ClaimSeven
namespace Go.Proofs.YtpkjlmaphhileaaDoor
namespace Rows

/-- THE TIED CARD OF 'punnetlaw13.FieldPrints'. -/
def fieldPrintsCard : Claim7 := { stood := { row := fieldPrintsRow, standIns := [], harness := (true, "2eaac260326cc8e06008959662f206a5f2ec9f7e3edcee5f2ea604ef98053f90"), looks := false }, kinds := [], alts := [], laidByText := true, laidKinds := [.data, .pinned], laidTests := true, laidLooks := .later }
def FieldPrintsCardSaid : Prop := Claim7.holds Tryd.pinned (.plain (OpenSpec.ofChange fieldPrintsSpec)) fieldPrintsCard

/-- THE TIED CARD OF 'punnetlaw13.FieldOrders'. -/
def fieldOrdersCard : Claim7 := { stood := { row := fieldOrdersRow, standIns := [], harness := (true, "2eaac260326cc8e06008959662f206a5f2ec9f7e3edcee5f2ea604ef98053f90"), looks := false }, kinds := [], alts := [], laidByText := true, laidKinds := [.data, .pinned], laidTests := true, laidLooks := .later }
def FieldOrdersCardSaid : Prop := Claim7.holds Tryd.pinned (.plain (OpenSpec.ofChange fieldOrdersSpec)) fieldOrdersCard

/-- THE TIED CARD OF 'punnetlaw13.FieldRight'. -/
def fieldRightCard : Claim7 := { stood := { row := fieldRightRow, standIns := [], harness := (true, "2eaac260326cc8e06008959662f206a5f2ec9f7e3edcee5f2ea604ef98053f90"), looks := false }, kinds := [], alts := [], laidByText := true, laidKinds := [.data, .pinned], laidTests := true, laidLooks := .later }
def FieldRightCardSaid : Prop := Claim7.holds Tryd.pinned (.plain (OpenSpec.ofChange fieldRightSpec)) fieldRightCard

/-- THE TIED CARD OF 'punnetlaw13.FieldBytes'. -/
def fieldBytesCard : Claim7 := { stood := { row := fieldBytesRow, standIns := [], harness := (true, "2eaac260326cc8e06008959662f206a5f2ec9f7e3edcee5f2ea604ef98053f90"), looks := false }, kinds := [], alts := [], laidByText := true, laidKinds := [.data, .pinned], laidTests := true, laidLooks := .later }
def FieldBytesCardSaid : Prop := Claim7.holds Tryd.pinned (.plain (OpenSpec.ofChange fieldBytesSpec)) fieldBytesCard

/-- THE SECOND FORM's CARD OF 'punnetlaw13.FieldPrints'. -/
def fieldPrintsUptoCard : Claim7 := { stood := { row := fieldPrintsUptoRow, standIns := [], harness := (true, "2eaac260326cc8e06008959662f206a5f2ec9f7e3edcee5f2ea604ef98053f90"), looks := false }, kinds := [], alts := [], laidByText := true, laidKinds := [.data, .pinned], laidTests := true, laidLooks := .later }
def FieldPrintsUptoCardSaid : Prop := Claim7.holds Tryd.pinned (.plain (OpenSpec.upto fieldPrintsSpec)) fieldPrintsUptoCard

/-- THE SECOND FORM's CARD OF 'punnetlaw13.FieldOrders'. -/
def fieldOrdersUptoCard : Claim7 := { stood := { row := fieldOrdersUptoRow, standIns := [], harness := (true, "2eaac260326cc8e06008959662f206a5f2ec9f7e3edcee5f2ea604ef98053f90"), looks := false }, kinds := [], alts := [], laidByText := true, laidKinds := [.data, .pinned], laidTests := true, laidLooks := .later }
def FieldOrdersUptoCardSaid : Prop := Claim7.holds Tryd.pinned (.plain (OpenSpec.upto fieldOrdersSpec)) fieldOrdersUptoCard

/-- THE SECOND FORM's CARD OF 'punnetlaw13.FieldRight'. -/
def fieldRightUptoCard : Claim7 := { stood := { row := fieldRightUptoRow, standIns := [], harness := (true, "2eaac260326cc8e06008959662f206a5f2ec9f7e3edcee5f2ea604ef98053f90"), looks := false }, kinds := [], alts := [], laidByText := true, laidKinds := [.data, .pinned], laidTests := true, laidLooks := .later }
def FieldRightUptoCardSaid : Prop := Claim7.holds Tryd.pinned (.plain (OpenSpec.upto fieldRightSpec)) fieldRightUptoCard

/-- THE SECOND FORM's CARD OF 'punnetlaw13.FieldBytes'. -/
def fieldBytesUptoCard : Claim7 := { stood := { row := fieldBytesUptoRow, standIns := [], harness := (true, "2eaac260326cc8e06008959662f206a5f2ec9f7e3edcee5f2ea604ef98053f90"), looks := false }, kinds := [], alts := [], laidByText := true, laidKinds := [.data, .pinned], laidTests := true, laidLooks := .later }
def FieldBytesUptoCardSaid : Prop := Claim7.holds Tryd.pinned (.plain (OpenSpec.upto fieldBytesSpec)) fieldBytesUptoCard
end Rows
end Go.Proofs.YtpkjlmaphhileaaDoor
