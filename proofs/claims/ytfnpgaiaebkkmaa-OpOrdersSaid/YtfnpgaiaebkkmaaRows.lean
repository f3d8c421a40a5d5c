/-
  No cell of these rows narrows 'for every input' (looked for: loops, veiled, ifaces, maps, wideKeys, modest, calm, conditions, laid).
  DERIVED. THE GIVEN ROWS OF THIS SEAT. 8 by the template 'for every input the law returns true; each argument reads behind the call as it read before'; 0 by the template 'total and deterministic' (their statements: YtfnpgaiaebkkmaaTotals.lean).
  GIVEN WITH THE SEED: the statements are not yours to turn. If you find one false, say at which input.
  Laid BY PROGRAM, IN A SANDBOX (cutbox-rows.mjs): the forced cells as the released guide's own fill.sh prints them over the translation cb5522cb825f645c… (all of the seat's roots in one cut). By AI agents, Wed Nov 11 2026. No macro, syntax, notation, axiom, sorry.
-/
import Derived.Test.YtfnpgaiaebkkmaaChecked
import GoSem.Claim
import GoSem.ClaimJoined
import GoSem.ClaimMapViews
import Derived.JoinedTies
import Derived.KernelRfl
namespace Go.Proofs.Ytfnpgaiaebkkmaa
/- THE CELL 'sum', in the pinned program and in every row, IS THE sha256 OF THE DUMP (.gsa) THAT YtfnpgaiaebkkmaaProg.lean LOADS. Nothing in Lean hashes anything: it is a label: what it is worth is what the hold of that sum in a sandbox is worth. -/
noncomputable def Try.pinned : Pinned := { name := "ytfnpgaiaebkkmaa", sum := "cb5522cb825f645c3622294c0c7ba196ac7f8b63818d0e90a440e7d4f6518ad5", checked := Try.checked }
namespace Rows
def none {H : Type} : Left H := { results := [], args := [] }

/-- 'punnetlaw14.SchemaRoot': WHATEVER THE INPUT: true; the input reads as it did. -/
def schemaRootSpec : ChangeSpec := { name := "schemaRoot", fn := fun _ => fun
  | [] => { results := [.lit (.bool true)], args := [] }
  | _ => none }
def schemaRootRow : OpenClaim := { program := "ytfnpgaiaebkkmaa", sum := "cb5522cb825f645c3622294c0c7ba196ac7f8b63818d0e90a440e7d4f6518ad5", func := "punnet/punnetlaw14.SchemaRoot", spec := "schemaRoot", apart := false }
def SchemaRootSaid : Prop := schemaRootRow.holds Try.pinned (OpenSpec.ofChange schemaRootSpec)

/-- ITS FALSE NEIGHBOUR: 'it returns false'. Refute it at one input. -/
def schemaRootWrong : ChangeSpec := { name := "schemaRoot", fn := fun _ => fun
  | [] => { results := [.lit (.bool false)], args := [] }
  | _ => none }
def SchemaRootWrongFalsely : Prop := schemaRootRow.holds Try.pinned (OpenSpec.ofChange schemaRootWrong)

/-- 'punnetlaw14.SchemaKept': WHATEVER THE INPUT: true; the input reads as it did. -/
def schemaKeptSpec : ChangeSpec := { name := "schemaKept", fn := fun _ => fun
  | [d1, d2] => { results := [.lit (.bool true)], args := [d1, d2] }
  | _ => none }
def schemaKeptRow : OpenClaim := { program := "ytfnpgaiaebkkmaa", sum := "cb5522cb825f645c3622294c0c7ba196ac7f8b63818d0e90a440e7d4f6518ad5", func := "punnet/punnetlaw14.SchemaKept", spec := "schemaKept", apart := false }
def SchemaKeptSaid : Prop := schemaKeptRow.holds Try.pinned (OpenSpec.ofChange schemaKeptSpec)

/-- ITS FALSE NEIGHBOUR: 'it returns false'. Refute it at one input. -/
def schemaKeptWrong : ChangeSpec := { name := "schemaKept", fn := fun _ => fun
  | [d1, d2] => { results := [.lit (.bool false)], args := [d1, d2] }
  | _ => none }
def SchemaKeptWrongFalsely : Prop := schemaKeptRow.holds Try.pinned (OpenSpec.ofChange schemaKeptWrong)

/-- 'punnetlaw14.SchemaFinds': WHATEVER THE INPUT: true; the input reads as it did. -/
def schemaFindsSpec : ChangeSpec := { name := "schemaFinds", fn := fun _ => fun
  | [d1, d2, d3, d4] => { results := [.lit (.bool true)], args := [d1, d2, d3, d4] }
  | _ => none }
def schemaFindsRow : OpenClaim := { program := "ytfnpgaiaebkkmaa", sum := "cb5522cb825f645c3622294c0c7ba196ac7f8b63818d0e90a440e7d4f6518ad5", func := "punnet/punnetlaw14.SchemaFinds", spec := "schemaFinds", apart := false }
def SchemaFindsSaid : Prop := schemaFindsRow.holds Try.pinned (OpenSpec.ofChange schemaFindsSpec)

/-- ITS FALSE NEIGHBOUR: 'it returns false'. Refute it at one input. -/
def schemaFindsWrong : ChangeSpec := { name := "schemaFinds", fn := fun _ => fun
  | [d1, d2, d3, d4] => { results := [.lit (.bool false)], args := [d1, d2, d3, d4] }
  | _ => none }
def SchemaFindsWrongFalsely : Prop := schemaFindsRow.holds Try.pinned (OpenSpec.ofChange schemaFindsWrong)

/-- 'punnetlaw14.SchemaTurns': WHATEVER THE INPUT: true; the input reads as it did. -/
def schemaTurnsSpec : ChangeSpec := { name := "schemaTurns", fn := fun _ => fun
  | [d1, d2, d3] => { results := [.lit (.bool true)], args := [d1, d2, d3] }
  | _ => none }
def schemaTurnsRow : OpenClaim := { program := "ytfnpgaiaebkkmaa", sum := "cb5522cb825f645c3622294c0c7ba196ac7f8b63818d0e90a440e7d4f6518ad5", func := "punnet/punnetlaw14.SchemaTurns", spec := "schemaTurns", apart := false }
def SchemaTurnsSaid : Prop := schemaTurnsRow.holds Try.pinned (OpenSpec.ofChange schemaTurnsSpec)

/-- ITS FALSE NEIGHBOUR: 'it returns false'. Refute it at one input. -/
def schemaTurnsWrong : ChangeSpec := { name := "schemaTurns", fn := fun _ => fun
  | [d1, d2, d3] => { results := [.lit (.bool false)], args := [d1, d2, d3] }
  | _ => none }
def SchemaTurnsWrongFalsely : Prop := schemaTurnsRow.holds Try.pinned (OpenSpec.ofChange schemaTurnsWrong)

/-- 'punnetlaw14.SchemaBytes': WHATEVER THE INPUT: true; the input reads as it did. -/
def schemaBytesSpec : ChangeSpec := { name := "schemaBytes", fn := fun _ => fun
  | [d1, d2, d3] => { results := [.lit (.bool true)], args := [d1, d2, d3] }
  | _ => none }
def schemaBytesRow : OpenClaim := { program := "ytfnpgaiaebkkmaa", sum := "cb5522cb825f645c3622294c0c7ba196ac7f8b63818d0e90a440e7d4f6518ad5", func := "punnet/punnetlaw14.SchemaBytes", spec := "schemaBytes", apart := false }
def SchemaBytesSaid : Prop := schemaBytesRow.holds Try.pinned (OpenSpec.ofChange schemaBytesSpec)

/-- ITS FALSE NEIGHBOUR: 'it returns false'. Refute it at one input. -/
def schemaBytesWrong : ChangeSpec := { name := "schemaBytes", fn := fun _ => fun
  | [d1, d2, d3] => { results := [.lit (.bool false)], args := [d1, d2, d3] }
  | _ => none }
def SchemaBytesWrongFalsely : Prop := schemaBytesRow.holds Try.pinned (OpenSpec.ofChange schemaBytesWrong)

/-- 'punnetlaw08.PenNil': WHATEVER THE INPUT: true; the input reads as it did. -/
def penNilSpec : ChangeSpec := { name := "penNil", fn := fun _ => fun
  | [d1, d2] => { results := [.lit (.bool true)], args := [d1, d2] }
  | _ => none }
def penNilRow : OpenClaim := { program := "ytfnpgaiaebkkmaa", sum := "cb5522cb825f645c3622294c0c7ba196ac7f8b63818d0e90a440e7d4f6518ad5", func := "punnet/punnetlaw08.PenNil", spec := "penNil", apart := false }
def PenNilSaid : Prop := penNilRow.holds Try.pinned (OpenSpec.ofChange penNilSpec)

/-- ITS FALSE NEIGHBOUR: 'it returns false'. Refute it at one input. -/
def penNilWrong : ChangeSpec := { name := "penNil", fn := fun _ => fun
  | [d1, d2] => { results := [.lit (.bool false)], args := [d1, d2] }
  | _ => none }
def PenNilWrongFalsely : Prop := penNilRow.holds Try.pinned (OpenSpec.ofChange penNilWrong)

/-- 'punnetlaw20.OpOrders': WHATEVER THE INPUT: true; the input reads as it did. -/
def opOrdersSpec : ChangeSpec := { name := "opOrders", fn := fun _ => fun
  | [d1, d2, d3] => { results := [.lit (.bool true)], args := [d1, d2, d3] }
  | _ => none }
def opOrdersRow : OpenClaim := { program := "ytfnpgaiaebkkmaa", sum := "cb5522cb825f645c3622294c0c7ba196ac7f8b63818d0e90a440e7d4f6518ad5", func := "punnet/punnetlaw20.OpOrders", spec := "opOrders", apart := false }
def OpOrdersSaid : Prop := opOrdersRow.holds Try.pinned (OpenSpec.ofChange opOrdersSpec)

/-- ITS FALSE NEIGHBOUR: 'it returns false'. Refute it at one input. -/
def opOrdersWrong : ChangeSpec := { name := "opOrders", fn := fun _ => fun
  | [d1, d2, d3] => { results := [.lit (.bool false)], args := [d1, d2, d3] }
  | _ => none }
def OpOrdersWrongFalsely : Prop := opOrdersRow.holds Try.pinned (OpenSpec.ofChange opOrdersWrong)

/-- 'punnetlaw16.BackInverse': WHATEVER THE INPUT: true; the input reads as it did. -/
def backInverseSpec : ChangeSpec := { name := "backInverse", fn := fun _ => fun
  | [d] => { results := [.lit (.bool true)], args := [d] }
  | _ => none }
def backInverseRow : OpenClaim := { program := "ytfnpgaiaebkkmaa", sum := "cb5522cb825f645c3622294c0c7ba196ac7f8b63818d0e90a440e7d4f6518ad5", func := "punnet/punnetlaw16.BackInverse", spec := "backInverse", apart := false }
def BackInverseSaid : Prop := backInverseRow.holds Try.pinned (OpenSpec.ofChange backInverseSpec)

/-- ITS FALSE NEIGHBOUR: 'it returns false'. Refute it at one input. -/
def backInverseWrong : ChangeSpec := { name := "backInverse", fn := fun _ => fun
  | [d] => { results := [.lit (.bool false)], args := [d] }
  | _ => none }
def BackInverseWrongFalsely : Prop := backInverseRow.holds Try.pinned (OpenSpec.ofChange backInverseWrong)

/- THE SECOND FORM. 'bulk': how many values and letters a reading holds, each counted each time it is reached (what is shared counts as often as it is met; a slice's spare places count too). A statement '..UptoSaid' is the law's where the arguments, and the package variables that the reading takes, are together of bulk at most 1048576: NARROWER than '..Said'. Prove '..Said' where nothing that the law and all that it calls make is longer than what came in: it says more and counts as full. Else prove '..UptoSaid'. A law counts once. -/
mutual
def uptoBulk {H : Type} : DataW H → Nat
  | .lit (.string bytes) => bytes.length + 1
  | .lit _ => 1
  | .nil => 1
  | .ptr d => uptoBulk d + 1
  | .slice elems spare => uptoBulkAll elems + uptoBulkAll spare + 1
  | .agg parts => uptoBulkAll parts + 1
  | .iface _ d => uptoBulk d + 1
  | .map entries => uptoBulkEntries entries + 1
  | .held _ => 1
def uptoBulkAll {H : Type} : List (DataW H) → Nat
  | [] => 0
  | d :: r => uptoBulk d + uptoBulkAll r
def uptoBulkEntries {H : Type} : List (Lit × DataW H) → Nat
  | [] => 0
  | x :: r => uptoBulkEntry x + uptoBulkEntries r
def uptoBulkEntry {H : Type} : Lit × DataW H → Nat
  | (.string bytes, d) => bytes.length + uptoBulk d + 1
  | (_, d) => uptoBulk d + 1
 end
def uptoSmall : (H : Type) → List (DataW H) → Bool := fun _ ds => decide (uptoBulkAll ds ≤ 1048576)
def OpenSpec.upto (s : _root_.Go.ChangeSpec) : _root_.Go.OpenSpec := { _root_.Go.OpenSpec.ofChange s with cond := some uptoSmall }

/-- 'punnetlaw14.SchemaRoot', WHERE WHAT IT READS IS OF BULK AT MOST 1048576: true; the input reads as it did. -/
def schemaRootUptoRow : OpenClaim := { program := "ytfnpgaiaebkkmaa", sum := "cb5522cb825f645c3622294c0c7ba196ac7f8b63818d0e90a440e7d4f6518ad5", func := "punnet/punnetlaw14.SchemaRoot", spec := "schemaRoot", apart := false, narrowed := true }
def SchemaRootUptoSaid : Prop := schemaRootUptoRow.holds Try.pinned (OpenSpec.upto schemaRootSpec)

/-- 'punnetlaw14.SchemaKept', WHERE WHAT IT READS IS OF BULK AT MOST 1048576: true; the input reads as it did. -/
def schemaKeptUptoRow : OpenClaim := { program := "ytfnpgaiaebkkmaa", sum := "cb5522cb825f645c3622294c0c7ba196ac7f8b63818d0e90a440e7d4f6518ad5", func := "punnet/punnetlaw14.SchemaKept", spec := "schemaKept", apart := false, narrowed := true }
def SchemaKeptUptoSaid : Prop := schemaKeptUptoRow.holds Try.pinned (OpenSpec.upto schemaKeptSpec)

/-- 'punnetlaw14.SchemaFinds', WHERE WHAT IT READS IS OF BULK AT MOST 1048576: true; the input reads as it did. -/
def schemaFindsUptoRow : OpenClaim := { program := "ytfnpgaiaebkkmaa", sum := "cb5522cb825f645c3622294c0c7ba196ac7f8b63818d0e90a440e7d4f6518ad5", func := "punnet/punnetlaw14.SchemaFinds", spec := "schemaFinds", apart := false, narrowed := true }
def SchemaFindsUptoSaid : Prop := schemaFindsUptoRow.holds Try.pinned (OpenSpec.upto schemaFindsSpec)

/-- 'punnetlaw14.SchemaTurns', WHERE WHAT IT READS IS OF BULK AT MOST 1048576: true; the input reads as it did. -/
def schemaTurnsUptoRow : OpenClaim := { program := "ytfnpgaiaebkkmaa", sum := "cb5522cb825f645c3622294c0c7ba196ac7f8b63818d0e90a440e7d4f6518ad5", func := "punnet/punnetlaw14.SchemaTurns", spec := "schemaTurns", apart := false, narrowed := true }
def SchemaTurnsUptoSaid : Prop := schemaTurnsUptoRow.holds Try.pinned (OpenSpec.upto schemaTurnsSpec)

/-- 'punnetlaw14.SchemaBytes', WHERE WHAT IT READS IS OF BULK AT MOST 1048576: true; the input reads as it did. -/
def schemaBytesUptoRow : OpenClaim := { program := "ytfnpgaiaebkkmaa", sum := "cb5522cb825f645c3622294c0c7ba196ac7f8b63818d0e90a440e7d4f6518ad5", func := "punnet/punnetlaw14.SchemaBytes", spec := "schemaBytes", apart := false, narrowed := true }
def SchemaBytesUptoSaid : Prop := schemaBytesUptoRow.holds Try.pinned (OpenSpec.upto schemaBytesSpec)

/-- 'punnetlaw08.PenNil', WHERE WHAT IT READS IS OF BULK AT MOST 1048576: true; the input reads as it did. -/
def penNilUptoRow : OpenClaim := { program := "ytfnpgaiaebkkmaa", sum := "cb5522cb825f645c3622294c0c7ba196ac7f8b63818d0e90a440e7d4f6518ad5", func := "punnet/punnetlaw08.PenNil", spec := "penNil", apart := false, narrowed := true }
def PenNilUptoSaid : Prop := penNilUptoRow.holds Try.pinned (OpenSpec.upto penNilSpec)

/-- 'punnetlaw20.OpOrders', WHERE WHAT IT READS IS OF BULK AT MOST 1048576: true; the input reads as it did. -/
def opOrdersUptoRow : OpenClaim := { program := "ytfnpgaiaebkkmaa", sum := "cb5522cb825f645c3622294c0c7ba196ac7f8b63818d0e90a440e7d4f6518ad5", func := "punnet/punnetlaw20.OpOrders", spec := "opOrders", apart := false, narrowed := true }
def OpOrdersUptoSaid : Prop := opOrdersUptoRow.holds Try.pinned (OpenSpec.upto opOrdersSpec)

/-- 'punnetlaw16.BackInverse', WHERE WHAT IT READS IS OF BULK AT MOST 1048576: true; the input reads as it did. -/
def backInverseUptoRow : OpenClaim := { program := "ytfnpgaiaebkkmaa", sum := "cb5522cb825f645c3622294c0c7ba196ac7f8b63818d0e90a440e7d4f6518ad5", func := "punnet/punnetlaw16.BackInverse", spec := "backInverse", apart := false, narrowed := true }
def BackInverseUptoSaid : Prop := backInverseUptoRow.holds Try.pinned (OpenSpec.upto backInverseSpec)

end Rows
end Go.Proofs.Ytfnpgaiaebkkmaa
