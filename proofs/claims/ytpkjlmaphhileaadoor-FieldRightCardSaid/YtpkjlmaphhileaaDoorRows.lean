/-
  NARROWER THAN 'FOR EVERY INPUT', by the rows' own cells (each row's printed sentence says how): FieldPrints: laid · FieldOrders: laid · FieldRight: laid · FieldBytes: laid.
  DERIVED. THE GIVEN ROWS OF THIS SEAT. 4 by the template 'for every input the law returns true; each argument reads behind the call as it read before'; 0 by the template 'total and deterministic' (their statements: YtpkjlmaphhileaaDoorTotals.lean).
  GIVEN WITH THE SEED: the statements are not yours to turn. If you find one false, say at which input.
  Laid BY PROGRAM, IN A SANDBOX (cutbox-rows.mjs): the forced cells as the released guide's own fill.sh prints them over the translation 2daae8a09c9ea596… (all of the seat's roots in one cut). By AI agents, Wed Nov 11 2026. No macro, syntax, notation, axiom, sorry.
-/
import Derived.Test.YtpkjlmaphhileaaDoorChecked
import GoSem.PinnedTables
import GoSem.Claim
import GoSem.ClaimJoined
import GoSem.ClaimMapViews
import Derived.JoinedTies
import Derived.KernelRfl
namespace Go.Proofs.YtpkjlmaphhileaaDoor
/- THE CELL 'sum', in the pinned program and in every row, IS THE sha256 OF THE DUMP (.gsa) THAT YtpkjlmaphhileaaDoorProg.lean LOADS. Nothing in Lean hashes anything: it is a label: what it is worth is what the hold of that sum in a sandbox is worth. -/
noncomputable def Tryd.pinned : Pinned := { name := "ytpkjlmaphhileaadoor", sum := "2daae8a09c9ea596b4d4f61bce38d3a4799ac01f53b3f9dbd783d785e9839820", checked := Tryd.checked }
namespace Rows
def none {H : Type} : Left H := { results := [], args := [] }

/- WHAT THE LISTED PACKAGE-LEVEL VARIABLES READ AS WHEN THE CALL BEGINS. Each datum BY PROGRAM (the guide's laid-datum.mjs) off the statement by which the dump's own 'gosem.cut.vars' lays the variable. In a bare row this is a premise. The card (YtpkjlmaphhileaaDoorCards.lean) ties it to the program's text. -/
def laid_unicode_utf8_acceptRanges {H : Type} : DataW H := .agg [.agg [.lit (.int .u8 128), .lit (.int .u8 191)], .agg [.lit (.int .u8 160), .lit (.int .u8 191)], .agg [.lit (.int .u8 128), .lit (.int .u8 159)], .agg [.lit (.int .u8 144), .lit (.int .u8 191)], .agg [.lit (.int .u8 128), .lit (.int .u8 143)], .agg [.lit (.int .u8 0), .lit (.int .u8 0)], .agg [.lit (.int .u8 0), .lit (.int .u8 0)], .agg [.lit (.int .u8 0), .lit (.int .u8 0)], .agg [.lit (.int .u8 0), .lit (.int .u8 0)], .agg [.lit (.int .u8 0), .lit (.int .u8 0)], .agg [.lit (.int .u8 0), .lit (.int .u8 0)], .agg [.lit (.int .u8 0), .lit (.int .u8 0)], .agg [.lit (.int .u8 0), .lit (.int .u8 0)], .agg [.lit (.int .u8 0), .lit (.int .u8 0)], .agg [.lit (.int .u8 0), .lit (.int .u8 0)], .agg [.lit (.int .u8 0), .lit (.int .u8 0)]]
/-- One of Go's own tables, pinned by name: the form's constant. -/
def laid_unicode_utf8_first : DataW Unit := Go.Pinned.utf8First

/-- 'punnetlaw13.FieldPrints': WHATEVER THE INPUT: true; the input reads as it did. -/
def fieldPrintsSpec : ChangeSpec := { name := "fieldPrints", fn := fun _ => fun
  | [d1, d2] => { results := [.lit (.bool true)], args := [d1, d2] }
  | _ => none }
def fieldPrintsRow : OpenClaim := { program := "ytpkjlmaphhileaadoor", sum := "2daae8a09c9ea596b4d4f61bce38d3a4799ac01f53b3f9dbd783d785e9839820", func := "punnet/punnetlaw13.FieldPrints", spec := "fieldPrints", inPlace := ["internal/bytealg.CountString", "internal/bytealg.IndexByteString", "internal/bytealg.IndexString"], named := ["unicode/utf8.first", "unicode/utf8.acceptRanges", "internal/bytealg.MaxLen"], apart := false, laid := [("unicode/utf8.acceptRanges", laid_unicode_utf8_acceptRanges), ("unicode/utf8.first", laid_unicode_utf8_first)] }
def FieldPrintsSaid : Prop := fieldPrintsRow.holds Tryd.pinned (OpenSpec.ofChange fieldPrintsSpec)

/-- ITS FALSE NEIGHBOUR: 'it returns false'. Refute it at one input. -/
def fieldPrintsWrong : ChangeSpec := { name := "fieldPrints", fn := fun _ => fun
  | [d1, d2] => { results := [.lit (.bool false)], args := [d1, d2] }
  | _ => none }
def FieldPrintsWrongFalsely : Prop := fieldPrintsRow.holds Tryd.pinned (OpenSpec.ofChange fieldPrintsWrong)

/-- 'punnetlaw13.FieldOrders': WHATEVER THE INPUT: true; the input reads as it did. -/
def fieldOrdersSpec : ChangeSpec := { name := "fieldOrders", fn := fun _ => fun
  | [d1, d2, d3] => { results := [.lit (.bool true)], args := [d1, d2, d3] }
  | _ => none }
def fieldOrdersRow : OpenClaim := { program := "ytpkjlmaphhileaadoor", sum := "2daae8a09c9ea596b4d4f61bce38d3a4799ac01f53b3f9dbd783d785e9839820", func := "punnet/punnetlaw13.FieldOrders", spec := "fieldOrders", inPlace := ["internal/bytealg.CountString", "internal/bytealg.IndexByteString", "internal/bytealg.IndexString"], named := ["unicode/utf8.first", "unicode/utf8.acceptRanges", "internal/bytealg.MaxLen"], apart := false, laid := [("unicode/utf8.acceptRanges", laid_unicode_utf8_acceptRanges), ("unicode/utf8.first", laid_unicode_utf8_first)] }
def FieldOrdersSaid : Prop := fieldOrdersRow.holds Tryd.pinned (OpenSpec.ofChange fieldOrdersSpec)

/-- ITS FALSE NEIGHBOUR: 'it returns false'. Refute it at one input. -/
def fieldOrdersWrong : ChangeSpec := { name := "fieldOrders", fn := fun _ => fun
  | [d1, d2, d3] => { results := [.lit (.bool false)], args := [d1, d2, d3] }
  | _ => none }
def FieldOrdersWrongFalsely : Prop := fieldOrdersRow.holds Tryd.pinned (OpenSpec.ofChange fieldOrdersWrong)

/-- 'punnetlaw13.FieldRight': WHATEVER THE INPUT: true; the input reads as it did. -/
def fieldRightSpec : ChangeSpec := { name := "fieldRight", fn := fun _ => fun
  | [d1, d2, d3] => { results := [.lit (.bool true)], args := [d1, d2, d3] }
  | _ => none }
def fieldRightRow : OpenClaim := { program := "ytpkjlmaphhileaadoor", sum := "2daae8a09c9ea596b4d4f61bce38d3a4799ac01f53b3f9dbd783d785e9839820", func := "punnet/punnetlaw13.FieldRight", spec := "fieldRight", inPlace := ["internal/bytealg.CountString", "internal/bytealg.IndexByteString", "internal/bytealg.IndexString"], named := ["unicode/utf8.first", "unicode/utf8.acceptRanges", "internal/bytealg.MaxLen"], apart := false, laid := [("unicode/utf8.acceptRanges", laid_unicode_utf8_acceptRanges), ("unicode/utf8.first", laid_unicode_utf8_first)] }
def FieldRightSaid : Prop := fieldRightRow.holds Tryd.pinned (OpenSpec.ofChange fieldRightSpec)

/-- ITS FALSE NEIGHBOUR: 'it returns false'. Refute it at one input. -/
def fieldRightWrong : ChangeSpec := { name := "fieldRight", fn := fun _ => fun
  | [d1, d2, d3] => { results := [.lit (.bool false)], args := [d1, d2, d3] }
  | _ => none }
def FieldRightWrongFalsely : Prop := fieldRightRow.holds Tryd.pinned (OpenSpec.ofChange fieldRightWrong)

/-- 'punnetlaw13.FieldBytes': WHATEVER THE INPUT: true; the input reads as it did. -/
def fieldBytesSpec : ChangeSpec := { name := "fieldBytes", fn := fun _ => fun
  | [d1, d2, d3] => { results := [.lit (.bool true)], args := [d1, d2, d3] }
  | _ => none }
def fieldBytesRow : OpenClaim := { program := "ytpkjlmaphhileaadoor", sum := "2daae8a09c9ea596b4d4f61bce38d3a4799ac01f53b3f9dbd783d785e9839820", func := "punnet/punnetlaw13.FieldBytes", spec := "fieldBytes", inPlace := ["internal/bytealg.CountString", "internal/bytealg.IndexByteString", "internal/bytealg.IndexString"], named := ["unicode/utf8.first", "unicode/utf8.acceptRanges", "internal/bytealg.MaxLen"], apart := false, laid := [("unicode/utf8.acceptRanges", laid_unicode_utf8_acceptRanges), ("unicode/utf8.first", laid_unicode_utf8_first)] }
def FieldBytesSaid : Prop := fieldBytesRow.holds Tryd.pinned (OpenSpec.ofChange fieldBytesSpec)

/-- ITS FALSE NEIGHBOUR: 'it returns false'. Refute it at one input. -/
def fieldBytesWrong : ChangeSpec := { name := "fieldBytes", fn := fun _ => fun
  | [d1, d2, d3] => { results := [.lit (.bool false)], args := [d1, d2, d3] }
  | _ => none }
def FieldBytesWrongFalsely : Prop := fieldBytesRow.holds Tryd.pinned (OpenSpec.ofChange fieldBytesWrong)

/- THE SECOND FORM. 'bulk': how many values and letters a reading holds, each counted each time it is reached (what is shared counts as often as it is met; a slice's spare places count too). A statement '..UptoSaid' is the law's where the arguments, and the package variables that the reading takes, are together of bulk at most 1048576: NARROWER than '..Said'. Prove '..Said' where nothing that the law and all that it calls make is longer than what came in: it says more and counts as full. Else prove '..UptoSaid'. A law counts once. -/
mutual
def uptoBulk {H : Type} : DataW H → Nat
  | .lit (.string bytes) => bytes.length + 1
  | .lit _ => 1
  | .nil => 1
  | .ptr d => uptoBulk d + 1
  | .slice elems spare => uptoBulkAll elems + uptoBulkAll spare + 1
  | .agg parts => uptoBulkAll parts + 1
  | .iface _ d => uptoBulk d + 1
  | .map entries => uptoBulkEntries entries + 1
  | .held _ => 1
def uptoBulkAll {H : Type} : List (DataW H) → Nat
  | [] => 0
  | d :: r => uptoBulk d + uptoBulkAll r
def uptoBulkEntries {H : Type} : List (Lit × DataW H) → Nat
  | [] => 0
  | x :: r => uptoBulkEntry x + uptoBulkEntries r
def uptoBulkEntry {H : Type} : Lit × DataW H → Nat
  | (.string bytes, d) => bytes.length + uptoBulk d + 1
  | (_, d) => uptoBulk d + 1
 end
def uptoSmall : (H : Type) → List (DataW H) → Bool := fun _ ds => decide (uptoBulkAll ds ≤ 1048576)
def OpenSpec.upto (s : _root_.Go.ChangeSpec) : _root_.Go.OpenSpec := { _root_.Go.OpenSpec.ofChange s with cond := some uptoSmall }

/-- 'punnetlaw13.FieldPrints', WHERE WHAT IT READS IS OF BULK AT MOST 1048576: true; the input reads as it did. -/
def fieldPrintsUptoRow : OpenClaim := { program := "ytpkjlmaphhileaadoor", sum := "2daae8a09c9ea596b4d4f61bce38d3a4799ac01f53b3f9dbd783d785e9839820", func := "punnet/punnetlaw13.FieldPrints", spec := "fieldPrints", inPlace := ["internal/bytealg.CountString", "internal/bytealg.IndexByteString", "internal/bytealg.IndexString"], named := ["unicode/utf8.first", "unicode/utf8.acceptRanges", "internal/bytealg.MaxLen"], apart := false, laid := [("unicode/utf8.acceptRanges", laid_unicode_utf8_acceptRanges), ("unicode/utf8.first", laid_unicode_utf8_first)], narrowed := true }
def FieldPrintsUptoSaid : Prop := fieldPrintsUptoRow.holds Tryd.pinned (OpenSpec.upto fieldPrintsSpec)

/-- 'punnetlaw13.FieldOrders', WHERE WHAT IT READS IS OF BULK AT MOST 1048576: true; the input reads as it did. -/
def fieldOrdersUptoRow : OpenClaim := { program := "ytpkjlmaphhileaadoor", sum := "2daae8a09c9ea596b4d4f61bce38d3a4799ac01f53b3f9dbd783d785e9839820", func := "punnet/punnetlaw13.FieldOrders", spec := "fieldOrders", inPlace := ["internal/bytealg.CountString", "internal/bytealg.IndexByteString", "internal/bytealg.IndexString"], named := ["unicode/utf8.first", "unicode/utf8.acceptRanges", "internal/bytealg.MaxLen"], apart := false, laid := [("unicode/utf8.acceptRanges", laid_unicode_utf8_acceptRanges), ("unicode/utf8.first", laid_unicode_utf8_first)], narrowed := true }
def FieldOrdersUptoSaid : Prop := fieldOrdersUptoRow.holds Tryd.pinned (OpenSpec.upto fieldOrdersSpec)

/-- 'punnetlaw13.FieldRight', WHERE WHAT IT READS IS OF BULK AT MOST 1048576: true; the input reads as it did. -/
def fieldRightUptoRow : OpenClaim := { program := "ytpkjlmaphhileaadoor", sum := "2daae8a09c9ea596b4d4f61bce38d3a4799ac01f53b3f9dbd783d785e9839820", func := "punnet/punnetlaw13.FieldRight", spec := "fieldRight", inPlace := ["internal/bytealg.CountString", "internal/bytealg.IndexByteString", "internal/bytealg.IndexString"], named := ["unicode/utf8.first", "unicode/utf8.acceptRanges", "internal/bytealg.MaxLen"], apart := false, laid := [("unicode/utf8.acceptRanges", laid_unicode_utf8_acceptRanges), ("unicode/utf8.first", laid_unicode_utf8_first)], narrowed := true }
def FieldRightUptoSaid : Prop := fieldRightUptoRow.holds Tryd.pinned (OpenSpec.upto fieldRightSpec)

/-- 'punnetlaw13.FieldBytes', WHERE WHAT IT READS IS OF BULK AT MOST 1048576: true; the input reads as it did. -/
def fieldBytesUptoRow : OpenClaim := { program := "ytpkjlmaphhileaadoor", sum := "2daae8a09c9ea596b4d4f61bce38d3a4799ac01f53b3f9dbd783d785e9839820", func := "punnet/punnetlaw13.FieldBytes", spec := "fieldBytes", inPlace := ["internal/bytealg.CountString", "internal/bytealg.IndexByteString", "internal/bytealg.IndexString"], named := ["unicode/utf8.first", "unicode/utf8.acceptRanges", "internal/bytealg.MaxLen"], apart := false, laid := [("unicode/utf8.acceptRanges", laid_unicode_utf8_acceptRanges), ("unicode/utf8.first", laid_unicode_utf8_first)], narrowed := true }
def FieldBytesUptoSaid : Prop := fieldBytesUptoRow.holds Tryd.pinned (OpenSpec.upto fieldBytesSpec)

end Rows
end Go.Proofs.YtpkjlmaphhileaaDoor
