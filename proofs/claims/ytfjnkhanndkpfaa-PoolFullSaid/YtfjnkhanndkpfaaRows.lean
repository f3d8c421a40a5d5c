/-
  No cell of these rows narrows 'for every input' (looked for: loops, veiled, ifaces, maps, wideKeys, modest, calm, conditions, laid).
  DERIVED. THE GIVEN ROWS OF THIS SEAT. 12 by the template 'for every input the law returns true; each argument reads behind the call as it read before'; 0 by the template 'total and deterministic' (their statements: YtfjnkhanndkpfaaTotals.lean).
  GIVEN WITH THE SEED: the statements are not yours to turn. If you find one false, say at which input.
  Laid BY PROGRAM, IN A SANDBOX (cutbox-rows.mjs): the forced cells as the released guide's own fill.sh prints them over the translation 7e660692811df26e… (all of the seat's roots in one cut). By AI agents, Wed Nov 11 2026. No macro, syntax, notation, axiom, sorry.
-/
import Derived.Test.YtfjnkhanndkpfaaChecked
import GoSem.Claim
import GoSem.ClaimJoined
import GoSem.ClaimMapViews
import Derived.JoinedTies
import Derived.KernelRfl
namespace Go.Proofs.Ytfjnkhanndkpfaa
/- THE CELL 'sum', in the pinned program and in every row, IS THE sha256 OF THE DUMP (.gsa) THAT YtfjnkhanndkpfaaProg.lean LOADS. Nothing in Lean hashes anything: it is a label: what it is worth is what the hold of that sum in a sandbox is worth. -/
noncomputable def Try.pinned : Pinned := { name := "ytfjnkhanndkpfaa", sum := "7e660692811df26ef4223c87c48f19594f275f9a6e04c1746f63e58f50f2f868", checked := Try.checked }
namespace Rows
def none {H : Type} : Left H := { results := [], args := [] }

/-- 'punnetlaw14.SchemaRoot': WHATEVER THE INPUT: true; the input reads as it did. -/
def schemaRootSpec : ChangeSpec := { name := "schemaRoot", fn := fun _ => fun
  | [] => { results := [.lit (.bool true)], args := [] }
  | _ => none }
def schemaRootRow : OpenClaim := { program := "ytfjnkhanndkpfaa", sum := "7e660692811df26ef4223c87c48f19594f275f9a6e04c1746f63e58f50f2f868", func := "punnet/punnetlaw14.SchemaRoot", spec := "schemaRoot", apart := false }
def SchemaRootSaid : Prop := schemaRootRow.holds Try.pinned (OpenSpec.ofChange schemaRootSpec)

/-- ITS FALSE NEIGHBOUR: 'it returns false'. Refute it at one input. -/
def schemaRootWrong : ChangeSpec := { name := "schemaRoot", fn := fun _ => fun
  | [] => { results := [.lit (.bool false)], args := [] }
  | _ => none }
def SchemaRootWrongFalsely : Prop := schemaRootRow.holds Try.pinned (OpenSpec.ofChange schemaRootWrong)

/-- 'punnetlaw14.SchemaKept': WHATEVER THE INPUT: true; the input reads as it did. -/
def schemaKeptSpec : ChangeSpec := { name := "schemaKept", fn := fun _ => fun
  | [d1, d2] => { results := [.lit (.bool true)], args := [d1, d2] }
  | _ => none }
def schemaKeptRow : OpenClaim := { program := "ytfjnkhanndkpfaa", sum := "7e660692811df26ef4223c87c48f19594f275f9a6e04c1746f63e58f50f2f868", func := "punnet/punnetlaw14.SchemaKept", spec := "schemaKept", apart := false }
def SchemaKeptSaid : Prop := schemaKeptRow.holds Try.pinned (OpenSpec.ofChange schemaKeptSpec)

/-- ITS FALSE NEIGHBOUR: 'it returns false'. Refute it at one input. -/
def schemaKeptWrong : ChangeSpec := { name := "schemaKept", fn := fun _ => fun
  | [d1, d2] => { results := [.lit (.bool false)], args := [d1, d2] }
  | _ => none }
def SchemaKeptWrongFalsely : Prop := schemaKeptRow.holds Try.pinned (OpenSpec.ofChange schemaKeptWrong)

/-- 'punnetlaw26.PoolFull': WHATEVER THE INPUT: true; the input reads as it did. -/
def poolFullSpec : ChangeSpec := { name := "poolFull", fn := fun _ => fun
  | [d1, d2] => { results := [.lit (.bool true)], args := [d1, d2] }
  | _ => none }
def poolFullRow : OpenClaim := { program := "ytfjnkhanndkpfaa", sum := "7e660692811df26ef4223c87c48f19594f275f9a6e04c1746f63e58f50f2f868", func := "punnet/punnetlaw26.PoolFull", spec := "poolFull", apart := false }
def PoolFullSaid : Prop := poolFullRow.holds Try.pinned (OpenSpec.ofChange poolFullSpec)

/-- ITS FALSE NEIGHBOUR: 'it returns false'. Refute it at one input. -/
def poolFullWrong : ChangeSpec := { name := "poolFull", fn := fun _ => fun
  | [d1, d2] => { results := [.lit (.bool false)], args := [d1, d2] }
  | _ => none }
def PoolFullWrongFalsely : Prop := poolFullRow.holds Try.pinned (OpenSpec.ofChange poolFullWrong)

/-- 'punnetlaw26.PoolOrders': WHATEVER THE INPUT: true; the input reads as it did. -/
def poolOrdersSpec : ChangeSpec := { name := "poolOrders", fn := fun _ => fun
  | [d1, d2, d3] => { results := [.lit (.bool true)], args := [d1, d2, d3] }
  | _ => none }
def poolOrdersRow : OpenClaim := { program := "ytfjnkhanndkpfaa", sum := "7e660692811df26ef4223c87c48f19594f275f9a6e04c1746f63e58f50f2f868", func := "punnet/punnetlaw26.PoolOrders", spec := "poolOrders", apart := false }
def PoolOrdersSaid : Prop := poolOrdersRow.holds Try.pinned (OpenSpec.ofChange poolOrdersSpec)

/-- ITS FALSE NEIGHBOUR: 'it returns false'. Refute it at one input. -/
def poolOrdersWrong : ChangeSpec := { name := "poolOrders", fn := fun _ => fun
  | [d1, d2, d3] => { results := [.lit (.bool false)], args := [d1, d2, d3] }
  | _ => none }
def PoolOrdersWrongFalsely : Prop := poolOrdersRow.holds Try.pinned (OpenSpec.ofChange poolOrdersWrong)

/-- 'punnetlaw26.PoolCatches': WHATEVER THE INPUT: true; the input reads as it did. -/
def poolCatchesSpec : ChangeSpec := { name := "poolCatches", fn := fun _ => fun
  | [d1, d2, d3] => { results := [.lit (.bool true)], args := [d1, d2, d3] }
  | _ => none }
def poolCatchesRow : OpenClaim := { program := "ytfjnkhanndkpfaa", sum := "7e660692811df26ef4223c87c48f19594f275f9a6e04c1746f63e58f50f2f868", func := "punnet/punnetlaw26.PoolCatches", spec := "poolCatches", apart := false }
def PoolCatchesSaid : Prop := poolCatchesRow.holds Try.pinned (OpenSpec.ofChange poolCatchesSpec)

/-- ITS FALSE NEIGHBOUR: 'it returns false'. Refute it at one input. -/
def poolCatchesWrong : ChangeSpec := { name := "poolCatches", fn := fun _ => fun
  | [d1, d2, d3] => { results := [.lit (.bool false)], args := [d1, d2, d3] }
  | _ => none }
def PoolCatchesWrongFalsely : Prop := poolCatchesRow.holds Try.pinned (OpenSpec.ofChange poolCatchesWrong)

/-- 'punnetlaw26.PoolPuts': WHATEVER THE INPUT: true; the input reads as it did. -/
def poolPutsSpec : ChangeSpec := { name := "poolPuts", fn := fun _ => fun
  | [d1, d2, d3, d4] => { results := [.lit (.bool true)], args := [d1, d2, d3, d4] }
  | _ => none }
def poolPutsRow : OpenClaim := { program := "ytfjnkhanndkpfaa", sum := "7e660692811df26ef4223c87c48f19594f275f9a6e04c1746f63e58f50f2f868", func := "punnet/punnetlaw26.PoolPuts", spec := "poolPuts", apart := false }
def PoolPutsSaid : Prop := poolPutsRow.holds Try.pinned (OpenSpec.ofChange poolPutsSpec)

/-- ITS FALSE NEIGHBOUR: 'it returns false'. Refute it at one input. -/
def poolPutsWrong : ChangeSpec := { name := "poolPuts", fn := fun _ => fun
  | [d1, d2, d3, d4] => { results := [.lit (.bool false)], args := [d1, d2, d3, d4] }
  | _ => none }
def PoolPutsWrongFalsely : Prop := poolPutsRow.holds Try.pinned (OpenSpec.ofChange poolPutsWrong)

/-- 'punnetlaw26.PoolNil': WHATEVER THE INPUT: true; the input reads as it did. -/
def poolNilSpec : ChangeSpec := { name := "poolNil", fn := fun _ => fun
  | [d1, d2] => { results := [.lit (.bool true)], args := [d1, d2] }
  | _ => none }
def poolNilRow : OpenClaim := { program := "ytfjnkhanndkpfaa", sum := "7e660692811df26ef4223c87c48f19594f275f9a6e04c1746f63e58f50f2f868", func := "punnet/punnetlaw26.PoolNil", spec := "poolNil", apart := false }
def PoolNilSaid : Prop := poolNilRow.holds Try.pinned (OpenSpec.ofChange poolNilSpec)

/-- ITS FALSE NEIGHBOUR: 'it returns false'. Refute it at one input. -/
def poolNilWrong : ChangeSpec := { name := "poolNil", fn := fun _ => fun
  | [d1, d2] => { results := [.lit (.bool false)], args := [d1, d2] }
  | _ => none }
def PoolNilWrongFalsely : Prop := poolNilRow.holds Try.pinned (OpenSpec.ofChange poolNilWrong)

/-- 'punnetlaw08.PenNil': WHATEVER THE INPUT: true; the input reads as it did. -/
def penNilSpec : ChangeSpec := { name := "penNil", fn := fun _ => fun
  | [d1, d2] => { results := [.lit (.bool true)], args := [d1, d2] }
  | _ => none }
def penNilRow : OpenClaim := { program := "ytfjnkhanndkpfaa", sum := "7e660692811df26ef4223c87c48f19594f275f9a6e04c1746f63e58f50f2f868", func := "punnet/punnetlaw08.PenNil", spec := "penNil", apart := false }
def PenNilSaid : Prop := penNilRow.holds Try.pinned (OpenSpec.ofChange penNilSpec)

/-- ITS FALSE NEIGHBOUR: 'it returns false'. Refute it at one input. -/
def penNilWrong : ChangeSpec := { name := "penNil", fn := fun _ => fun
  | [d1, d2] => { results := [.lit (.bool false)], args := [d1, d2] }
  | _ => none }
def PenNilWrongFalsely : Prop := penNilRow.holds Try.pinned (OpenSpec.ofChange penNilWrong)

/-- 'punnetlaw14.SchemaBytes': WHATEVER THE INPUT: true; the input reads as it did. -/
def schemaBytesSpec : ChangeSpec := { name := "schemaBytes", fn := fun _ => fun
  | [d1, d2, d3] => { results := [.lit (.bool true)], args := [d1, d2, d3] }
  | _ => none }
def schemaBytesRow : OpenClaim := { program := "ytfjnkhanndkpfaa", sum := "7e660692811df26ef4223c87c48f19594f275f9a6e04c1746f63e58f50f2f868", func := "punnet/punnetlaw14.SchemaBytes", spec := "schemaBytes", apart := false }
def SchemaBytesSaid : Prop := schemaBytesRow.holds Try.pinned (OpenSpec.ofChange schemaBytesSpec)

/-- ITS FALSE NEIGHBOUR: 'it returns false'. Refute it at one input. -/
def schemaBytesWrong : ChangeSpec := { name := "schemaBytes", fn := fun _ => fun
  | [d1, d2, d3] => { results := [.lit (.bool false)], args := [d1, d2, d3] }
  | _ => none }
def SchemaBytesWrongFalsely : Prop := schemaBytesRow.holds Try.pinned (OpenSpec.ofChange schemaBytesWrong)

/-- 'punnetlaw16.BackInverse': WHATEVER THE INPUT: true; the input reads as it did. -/
def backInverseSpec : ChangeSpec := { name := "backInverse", fn := fun _ => fun
  | [d] => { results := [.lit (.bool true)], args := [d] }
  | _ => none }
def backInverseRow : OpenClaim := { program := "ytfjnkhanndkpfaa", sum := "7e660692811df26ef4223c87c48f19594f275f9a6e04c1746f63e58f50f2f868", func := "punnet/punnetlaw16.BackInverse", spec := "backInverse", apart := false }
def BackInverseSaid : Prop := backInverseRow.holds Try.pinned (OpenSpec.ofChange backInverseSpec)

/-- ITS FALSE NEIGHBOUR: 'it returns false'. Refute it at one input. -/
def backInverseWrong : ChangeSpec := { name := "backInverse", fn := fun _ => fun
  | [d] => { results := [.lit (.bool false)], args := [d] }
  | _ => none }
def BackInverseWrongFalsely : Prop := backInverseRow.holds Try.pinned (OpenSpec.ofChange backInverseWrong)

/-- 'punnetlaw20.OpFormats': WHATEVER THE INPUT: true; the input reads as it did. -/
def opFormatsSpec : ChangeSpec := { name := "opFormats", fn := fun _ => fun
  | [d] => { results := [.lit (.bool true)], args := [d] }
  | _ => none }
def opFormatsRow : OpenClaim := { program := "ytfjnkhanndkpfaa", sum := "7e660692811df26ef4223c87c48f19594f275f9a6e04c1746f63e58f50f2f868", func := "punnet/punnetlaw20.OpFormats", spec := "opFormats", apart := false }
def OpFormatsSaid : Prop := opFormatsRow.holds Try.pinned (OpenSpec.ofChange opFormatsSpec)

/-- ITS FALSE NEIGHBOUR: 'it returns false'. Refute it at one input. -/
def opFormatsWrong : ChangeSpec := { name := "opFormats", fn := fun _ => fun
  | [d] => { results := [.lit (.bool false)], args := [d] }
  | _ => none }
def OpFormatsWrongFalsely : Prop := opFormatsRow.holds Try.pinned (OpenSpec.ofChange opFormatsWrong)

/-- 'punnetlaw20.OpBytes': WHATEVER THE INPUT: true; the input reads as it did. -/
def opBytesSpec : ChangeSpec := { name := "opBytes", fn := fun _ => fun
  | [d1, d2, d3] => { results := [.lit (.bool true)], args := [d1, d2, d3] }
  | _ => none }
def opBytesRow : OpenClaim := { program := "ytfjnkhanndkpfaa", sum := "7e660692811df26ef4223c87c48f19594f275f9a6e04c1746f63e58f50f2f868", func := "punnet/punnetlaw20.OpBytes", spec := "opBytes", apart := false }
def OpBytesSaid : Prop := opBytesRow.holds Try.pinned (OpenSpec.ofChange opBytesSpec)

/-- ITS FALSE NEIGHBOUR: 'it returns false'. Refute it at one input. -/
def opBytesWrong : ChangeSpec := { name := "opBytes", fn := fun _ => fun
  | [d1, d2, d3] => { results := [.lit (.bool false)], args := [d1, d2, d3] }
  | _ => none }
def OpBytesWrongFalsely : Prop := opBytesRow.holds Try.pinned (OpenSpec.ofChange opBytesWrong)

/- THE SECOND FORM. 'bulk': how many values and letters a reading holds, each counted each time it is reached (what is shared counts as often as it is met; a slice's spare places count too). A statement '..UptoSaid' is the law's where the arguments, and the package variables that the reading takes, are together of bulk at most 1048576: NARROWER than '..Said'. Prove '..Said' where nothing that the law and all that it calls make is longer than what came in: it says more and counts as full. Else prove '..UptoSaid'. A law counts once. -/
mutual
def uptoBulk {H : Type} : DataW H → Nat
  | .lit (.string bytes) => bytes.length + 1
  | .lit _ => 1
  | .nil => 1
  | .ptr d => uptoBulk d + 1
  | .slice elems spare => uptoBulkAll elems + uptoBulkAll spare + 1
  | .agg parts => uptoBulkAll parts + 1
  | .iface _ d => uptoBulk d + 1
  | .map entries => uptoBulkEntries entries + 1
  | .held _ => 1
def uptoBulkAll {H : Type} : List (DataW H) → Nat
  | [] => 0
  | d :: r => uptoBulk d + uptoBulkAll r
def uptoBulkEntries {H : Type} : List (Lit × DataW H) → Nat
  | [] => 0
  | x :: r => uptoBulkEntry x + uptoBulkEntries r
def uptoBulkEntry {H : Type} : Lit × DataW H → Nat
  | (.string bytes, d) => bytes.length + uptoBulk d + 1
  | (_, d) => uptoBulk d + 1
 end
def uptoSmall : (H : Type) → List (DataW H) → Bool := fun _ ds => decide (uptoBulkAll ds ≤ 1048576)
def OpenSpec.upto (s : _root_.Go.ChangeSpec) : _root_.Go.OpenSpec := { _root_.Go.OpenSpec.ofChange s with cond := some uptoSmall }

/-- 'punnetlaw14.SchemaRoot', WHERE WHAT IT READS IS OF BULK AT MOST 1048576: true; the input reads as it did. -/
def schemaRootUptoRow : OpenClaim := { program := "ytfjnkhanndkpfaa", sum := "7e660692811df26ef4223c87c48f19594f275f9a6e04c1746f63e58f50f2f868", func := "punnet/punnetlaw14.SchemaRoot", spec := "schemaRoot", apart := false, narrowed := true }
def SchemaRootUptoSaid : Prop := schemaRootUptoRow.holds Try.pinned (OpenSpec.upto schemaRootSpec)

/-- 'punnetlaw14.SchemaKept', WHERE WHAT IT READS IS OF BULK AT MOST 1048576: true; the input reads as it did. -/
def schemaKeptUptoRow : OpenClaim := { program := "ytfjnkhanndkpfaa", sum := "7e660692811df26ef4223c87c48f19594f275f9a6e04c1746f63e58f50f2f868", func := "punnet/punnetlaw14.SchemaKept", spec := "schemaKept", apart := false, narrowed := true }
def SchemaKeptUptoSaid : Prop := schemaKeptUptoRow.holds Try.pinned (OpenSpec.upto schemaKeptSpec)

/-- 'punnetlaw26.PoolFull', WHERE WHAT IT READS IS OF BULK AT MOST 1048576: true; the input reads as it did. -/
def poolFullUptoRow : OpenClaim := { program := "ytfjnkhanndkpfaa", sum := "7e660692811df26ef4223c87c48f19594f275f9a6e04c1746f63e58f50f2f868", func := "punnet/punnetlaw26.PoolFull", spec := "poolFull", apart := false, narrowed := true }
def PoolFullUptoSaid : Prop := poolFullUptoRow.holds Try.pinned (OpenSpec.upto poolFullSpec)

/-- 'punnetlaw26.PoolOrders', WHERE WHAT IT READS IS OF BULK AT MOST 1048576: true; the input reads as it did. -/
def poolOrdersUptoRow : OpenClaim := { program := "ytfjnkhanndkpfaa", sum := "7e660692811df26ef4223c87c48f19594f275f9a6e04c1746f63e58f50f2f868", func := "punnet/punnetlaw26.PoolOrders", spec := "poolOrders", apart := false, narrowed := true }
def PoolOrdersUptoSaid : Prop := poolOrdersUptoRow.holds Try.pinned (OpenSpec.upto poolOrdersSpec)

/-- 'punnetlaw26.PoolCatches', WHERE WHAT IT READS IS OF BULK AT MOST 1048576: true; the input reads as it did. -/
def poolCatchesUptoRow : OpenClaim := { program := "ytfjnkhanndkpfaa", sum := "7e660692811df26ef4223c87c48f19594f275f9a6e04c1746f63e58f50f2f868", func := "punnet/punnetlaw26.PoolCatches", spec := "poolCatches", apart := false, narrowed := true }
def PoolCatchesUptoSaid : Prop := poolCatchesUptoRow.holds Try.pinned (OpenSpec.upto poolCatchesSpec)

/-- 'punnetlaw26.PoolPuts', WHERE WHAT IT READS IS OF BULK AT MOST 1048576: true; the input reads as it did. -/
def poolPutsUptoRow : OpenClaim := { program := "ytfjnkhanndkpfaa", sum := "7e660692811df26ef4223c87c48f19594f275f9a6e04c1746f63e58f50f2f868", func := "punnet/punnetlaw26.PoolPuts", spec := "poolPuts", apart := false, narrowed := true }
def PoolPutsUptoSaid : Prop := poolPutsUptoRow.holds Try.pinned (OpenSpec.upto poolPutsSpec)

/-- 'punnetlaw26.PoolNil', WHERE WHAT IT READS IS OF BULK AT MOST 1048576: true; the input reads as it did. -/
def poolNilUptoRow : OpenClaim := { program := "ytfjnkhanndkpfaa", sum := "7e660692811df26ef4223c87c48f19594f275f9a6e04c1746f63e58f50f2f868", func := "punnet/punnetlaw26.PoolNil", spec := "poolNil", apart := false, narrowed := true }
def PoolNilUptoSaid : Prop := poolNilUptoRow.holds Try.pinned (OpenSpec.upto poolNilSpec)

/-- 'punnetlaw08.PenNil', WHERE WHAT IT READS IS OF BULK AT MOST 1048576: true; the input reads as it did. -/
def penNilUptoRow : OpenClaim := { program := "ytfjnkhanndkpfaa", sum := "7e660692811df26ef4223c87c48f19594f275f9a6e04c1746f63e58f50f2f868", func := "punnet/punnetlaw08.PenNil", spec := "penNil", apart := false, narrowed := true }
def PenNilUptoSaid : Prop := penNilUptoRow.holds Try.pinned (OpenSpec.upto penNilSpec)

/-- 'punnetlaw14.SchemaBytes', WHERE WHAT IT READS IS OF BULK AT MOST 1048576: true; the input reads as it did. -/
def schemaBytesUptoRow : OpenClaim := { program := "ytfjnkhanndkpfaa", sum := "7e660692811df26ef4223c87c48f19594f275f9a6e04c1746f63e58f50f2f868", func := "punnet/punnetlaw14.SchemaBytes", spec := "schemaBytes", apart := false, narrowed := true }
def SchemaBytesUptoSaid : Prop := schemaBytesUptoRow.holds Try.pinned (OpenSpec.upto schemaBytesSpec)

/-- 'punnetlaw16.BackInverse', WHERE WHAT IT READS IS OF BULK AT MOST 1048576: true; the input reads as it did. -/
def backInverseUptoRow : OpenClaim := { program := "ytfjnkhanndkpfaa", sum := "7e660692811df26ef4223c87c48f19594f275f9a6e04c1746f63e58f50f2f868", func := "punnet/punnetlaw16.BackInverse", spec := "backInverse", apart := false, narrowed := true }
def BackInverseUptoSaid : Prop := backInverseUptoRow.holds Try.pinned (OpenSpec.upto backInverseSpec)

/-- 'punnetlaw20.OpFormats', WHERE WHAT IT READS IS OF BULK AT MOST 1048576: true; the input reads as it did. -/
def opFormatsUptoRow : OpenClaim := { program := "ytfjnkhanndkpfaa", sum := "7e660692811df26ef4223c87c48f19594f275f9a6e04c1746f63e58f50f2f868", func := "punnet/punnetlaw20.OpFormats", spec := "opFormats", apart := false, narrowed := true }
def OpFormatsUptoSaid : Prop := opFormatsUptoRow.holds Try.pinned (OpenSpec.upto opFormatsSpec)

/-- 'punnetlaw20.OpBytes', WHERE WHAT IT READS IS OF BULK AT MOST 1048576: true; the input reads as it did. -/
def opBytesUptoRow : OpenClaim := { program := "ytfjnkhanndkpfaa", sum := "7e660692811df26ef4223c87c48f19594f275f9a6e04c1746f63e58f50f2f868", func := "punnet/punnetlaw20.OpBytes", spec := "opBytes", apart := false, narrowed := true }
def OpBytesUptoSaid : Prop := opBytesUptoRow.holds Try.pinned (OpenSpec.upto opBytesSpec)

end Rows
end Go.Proofs.Ytfjnkhanndkpfaa
