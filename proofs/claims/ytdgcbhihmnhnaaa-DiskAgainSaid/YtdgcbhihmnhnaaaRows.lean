/-
  No cell of these rows narrows 'for every input' (looked for: loops, veiled, ifaces, maps, wideKeys, modest, calm, conditions, laid).
  DERIVED. THE GIVEN ROWS OF THIS SEAT. 7 by the template 'for every input the law returns true; each argument reads behind the call as it read before'; 0 by the template 'total and deterministic' (their statements: YtdgcbhihmnhnaaaTotals.lean).
  GIVEN WITH THE SEED: the statements are not yours to turn. If you find one false, say at which input.
  Laid BY PROGRAM, IN A SANDBOX (cutbox-rows.mjs): the forced cells as the released guide's own fill.sh prints them over the translation c2ad02b2d3318a07… (all of the seat's roots in one cut). By AI agents, Wed Nov 11 2026. No macro, syntax, notation, axiom, sorry.
-/
import Derived.Test.YtdgcbhihmnhnaaaChecked
import GoSem.Claim
import GoSem.ClaimJoined
import GoSem.ClaimMapViews
import Derived.JoinedTies
import Derived.KernelRfl
namespace Go.Proofs.Ytdgcbhihmnhnaaa
/- THE CELL 'sum', in the pinned program and in every row, IS THE sha256 OF THE DUMP (.gsa) THAT YtdgcbhihmnhnaaaProg.lean LOADS. Nothing in Lean hashes anything: it is a label: what it is worth is what the hold of that sum in a sandbox is worth. -/
noncomputable def Try.pinned : Pinned := { name := "ytdgcbhihmnhnaaa", sum := "c2ad02b2d3318a070438ab706debf73a1b086b0d5799cb3b5cd88b17867ef0bc", checked := Try.checked }
namespace Rows
def none {H : Type} : Left H := { results := [], args := [] }

/-- 'punnetlaw09.DiskAgain': WHATEVER THE INPUT: true; the input reads as it did. -/
def diskAgainSpec : ChangeSpec := { name := "diskAgain", fn := fun _ => fun
  | [d1, d2] => { results := [.lit (.bool true)], args := [d1, d2] }
  | _ => none }
def diskAgainRow : OpenClaim := { program := "ytdgcbhihmnhnaaa", sum := "c2ad02b2d3318a070438ab706debf73a1b086b0d5799cb3b5cd88b17867ef0bc", func := "punnet/punnetlaw09.DiskAgain", spec := "diskAgain", apart := false }
def DiskAgainSaid : Prop := diskAgainRow.holds Try.pinned (OpenSpec.ofChange diskAgainSpec)

/-- ITS FALSE NEIGHBOUR: 'it returns false'. Refute it at one input. -/
def diskAgainWrong : ChangeSpec := { name := "diskAgain", fn := fun _ => fun
  | [d1, d2] => { results := [.lit (.bool false)], args := [d1, d2] }
  | _ => none }
def DiskAgainWrongFalsely : Prop := diskAgainRow.holds Try.pinned (OpenSpec.ofChange diskAgainWrong)

/-- 'punnetlaw16.BackReturns': WHATEVER THE INPUT: true; the input reads as it did. -/
def backReturnsSpec : ChangeSpec := { name := "backReturns", fn := fun _ => fun
  | [d1, d2] => { results := [.lit (.bool true)], args := [d1, d2] }
  | _ => none }
def backReturnsRow : OpenClaim := { program := "ytdgcbhihmnhnaaa", sum := "c2ad02b2d3318a070438ab706debf73a1b086b0d5799cb3b5cd88b17867ef0bc", func := "punnet/punnetlaw16.BackReturns", spec := "backReturns", apart := false }
def BackReturnsSaid : Prop := backReturnsRow.holds Try.pinned (OpenSpec.ofChange backReturnsSpec)

/-- ITS FALSE NEIGHBOUR: 'it returns false'. Refute it at one input. -/
def backReturnsWrong : ChangeSpec := { name := "backReturns", fn := fun _ => fun
  | [d1, d2] => { results := [.lit (.bool false)], args := [d1, d2] }
  | _ => none }
def BackReturnsWrongFalsely : Prop := backReturnsRow.holds Try.pinned (OpenSpec.ofChange backReturnsWrong)

/-- 'punnetlaw16.BackParts': WHATEVER THE INPUT: true; the input reads as it did. -/
def backPartsSpec : ChangeSpec := { name := "backParts", fn := fun _ => fun
  | [d1, d2, d3] => { results := [.lit (.bool true)], args := [d1, d2, d3] }
  | _ => none }
def backPartsRow : OpenClaim := { program := "ytdgcbhihmnhnaaa", sum := "c2ad02b2d3318a070438ab706debf73a1b086b0d5799cb3b5cd88b17867ef0bc", func := "punnet/punnetlaw16.BackParts", spec := "backParts", apart := false }
def BackPartsSaid : Prop := backPartsRow.holds Try.pinned (OpenSpec.ofChange backPartsSpec)

/-- ITS FALSE NEIGHBOUR: 'it returns false'. Refute it at one input. -/
def backPartsWrong : ChangeSpec := { name := "backParts", fn := fun _ => fun
  | [d1, d2, d3] => { results := [.lit (.bool false)], args := [d1, d2, d3] }
  | _ => none }
def BackPartsWrongFalsely : Prop := backPartsRow.holds Try.pinned (OpenSpec.ofChange backPartsWrong)

/-- 'punnetlaw16.BackChains': WHATEVER THE INPUT: true; the input reads as it did. -/
def backChainsSpec : ChangeSpec := { name := "backChains", fn := fun _ => fun
  | [d1, d2] => { results := [.lit (.bool true)], args := [d1, d2] }
  | _ => none }
def backChainsRow : OpenClaim := { program := "ytdgcbhihmnhnaaa", sum := "c2ad02b2d3318a070438ab706debf73a1b086b0d5799cb3b5cd88b17867ef0bc", func := "punnet/punnetlaw16.BackChains", spec := "backChains", apart := false }
def BackChainsSaid : Prop := backChainsRow.holds Try.pinned (OpenSpec.ofChange backChainsSpec)

/-- ITS FALSE NEIGHBOUR: 'it returns false'. Refute it at one input. -/
def backChainsWrong : ChangeSpec := { name := "backChains", fn := fun _ => fun
  | [d1, d2] => { results := [.lit (.bool false)], args := [d1, d2] }
  | _ => none }
def BackChainsWrongFalsely : Prop := backChainsRow.holds Try.pinned (OpenSpec.ofChange backChainsWrong)

/-- 'punnetlaw30.TalkTells': WHATEVER THE INPUT: true; the input reads as it did. -/
def talkTellsSpec : ChangeSpec := { name := "talkTells", fn := fun _ => fun
  | [d1, d2, d3, d4, d5] => { results := [.lit (.bool true)], args := [d1, d2, d3, d4, d5] }
  | _ => none }
def talkTellsRow : OpenClaim := { program := "ytdgcbhihmnhnaaa", sum := "c2ad02b2d3318a070438ab706debf73a1b086b0d5799cb3b5cd88b17867ef0bc", func := "punnet/punnetlaw30.TalkTells", spec := "talkTells", unfollowed := true, recurses := true, apart := false }
def TalkTellsSaid : Prop := talkTellsRow.holds Try.pinned (OpenSpec.ofChange talkTellsSpec)

/-- ITS FALSE NEIGHBOUR: 'it returns false'. Refute it at one input. -/
def talkTellsWrong : ChangeSpec := { name := "talkTells", fn := fun _ => fun
  | [d1, d2, d3, d4, d5] => { results := [.lit (.bool false)], args := [d1, d2, d3, d4, d5] }
  | _ => none }
def TalkTellsWrongFalsely : Prop := talkTellsRow.holds Try.pinned (OpenSpec.ofChange talkTellsWrong)

/-- 'punnetlaw14.SchemaRoot': WHATEVER THE INPUT: true; the input reads as it did. -/
def schemaRootSpec : ChangeSpec := { name := "schemaRoot", fn := fun _ => fun
  | [] => { results := [.lit (.bool true)], args := [] }
  | _ => none }
def schemaRootRow : OpenClaim := { program := "ytdgcbhihmnhnaaa", sum := "c2ad02b2d3318a070438ab706debf73a1b086b0d5799cb3b5cd88b17867ef0bc", func := "punnet/punnetlaw14.SchemaRoot", spec := "schemaRoot", apart := false }
def SchemaRootSaid : Prop := schemaRootRow.holds Try.pinned (OpenSpec.ofChange schemaRootSpec)

/-- ITS FALSE NEIGHBOUR: 'it returns false'. Refute it at one input. -/
def schemaRootWrong : ChangeSpec := { name := "schemaRoot", fn := fun _ => fun
  | [] => { results := [.lit (.bool false)], args := [] }
  | _ => none }
def SchemaRootWrongFalsely : Prop := schemaRootRow.holds Try.pinned (OpenSpec.ofChange schemaRootWrong)

/-- 'punnetlaw14.SchemaKept': WHATEVER THE INPUT: true; the input reads as it did. -/
def schemaKeptSpec : ChangeSpec := { name := "schemaKept", fn := fun _ => fun
  | [d1, d2] => { results := [.lit (.bool true)], args := [d1, d2] }
  | _ => none }
def schemaKeptRow : OpenClaim := { program := "ytdgcbhihmnhnaaa", sum := "c2ad02b2d3318a070438ab706debf73a1b086b0d5799cb3b5cd88b17867ef0bc", func := "punnet/punnetlaw14.SchemaKept", spec := "schemaKept", apart := false }
def SchemaKeptSaid : Prop := schemaKeptRow.holds Try.pinned (OpenSpec.ofChange schemaKeptSpec)

/-- ITS FALSE NEIGHBOUR: 'it returns false'. Refute it at one input. -/
def schemaKeptWrong : ChangeSpec := { name := "schemaKept", fn := fun _ => fun
  | [d1, d2] => { results := [.lit (.bool false)], args := [d1, d2] }
  | _ => none }
def SchemaKeptWrongFalsely : Prop := schemaKeptRow.holds Try.pinned (OpenSpec.ofChange schemaKeptWrong)

/- THE SECOND FORM. 'bulk': how many values and letters a reading holds, each counted each time it is reached (what is shared counts as often as it is met; a slice's spare places count too). A statement '..UptoSaid' is the law's where the arguments, and the package variables that the reading takes, are together of bulk at most 1048576: NARROWER than '..Said'. Prove '..Said' where nothing that the law and all that it calls make is longer than what came in: it says more and counts as full. Else prove '..UptoSaid'. A law counts once. -/
mutual
def uptoBulk {H : Type} : DataW H → Nat
  | .lit (.string bytes) => bytes.length + 1
  | .lit _ => 1
  | .nil => 1
  | .ptr d => uptoBulk d + 1
  | .slice elems spare => uptoBulkAll elems + uptoBulkAll spare + 1
  | .agg parts => uptoBulkAll parts + 1
  | .iface _ d => uptoBulk d + 1
  | .map entries => uptoBulkEntries entries + 1
  | .held _ => 1
def uptoBulkAll {H : Type} : List (DataW H) → Nat
  | [] => 0
  | d :: r => uptoBulk d + uptoBulkAll r
def uptoBulkEntries {H : Type} : List (Lit × DataW H) → Nat
  | [] => 0
  | x :: r => uptoBulkEntry x + uptoBulkEntries r
def uptoBulkEntry {H : Type} : Lit × DataW H → Nat
  | (.string bytes, d) => bytes.length + uptoBulk d + 1
  | (_, d) => uptoBulk d + 1
 end
def uptoSmall : (H : Type) → List (DataW H) → Bool := fun _ ds => decide (uptoBulkAll ds ≤ 1048576)
def OpenSpec.upto (s : _root_.Go.ChangeSpec) : _root_.Go.OpenSpec := { _root_.Go.OpenSpec.ofChange s with cond := some uptoSmall }

/-- 'punnetlaw09.DiskAgain', WHERE WHAT IT READS IS OF BULK AT MOST 1048576: true; the input reads as it did. -/
def diskAgainUptoRow : OpenClaim := { program := "ytdgcbhihmnhnaaa", sum := "c2ad02b2d3318a070438ab706debf73a1b086b0d5799cb3b5cd88b17867ef0bc", func := "punnet/punnetlaw09.DiskAgain", spec := "diskAgain", apart := false, narrowed := true }
def DiskAgainUptoSaid : Prop := diskAgainUptoRow.holds Try.pinned (OpenSpec.upto diskAgainSpec)

/-- 'punnetlaw16.BackReturns', WHERE WHAT IT READS IS OF BULK AT MOST 1048576: true; the input reads as it did. -/
def backReturnsUptoRow : OpenClaim := { program := "ytdgcbhihmnhnaaa", sum := "c2ad02b2d3318a070438ab706debf73a1b086b0d5799cb3b5cd88b17867ef0bc", func := "punnet/punnetlaw16.BackReturns", spec := "backReturns", apart := false, narrowed := true }
def BackReturnsUptoSaid : Prop := backReturnsUptoRow.holds Try.pinned (OpenSpec.upto backReturnsSpec)

/-- 'punnetlaw16.BackParts', WHERE WHAT IT READS IS OF BULK AT MOST 1048576: true; the input reads as it did. -/
def backPartsUptoRow : OpenClaim := { program := "ytdgcbhihmnhnaaa", sum := "c2ad02b2d3318a070438ab706debf73a1b086b0d5799cb3b5cd88b17867ef0bc", func := "punnet/punnetlaw16.BackParts", spec := "backParts", apart := false, narrowed := true }
def BackPartsUptoSaid : Prop := backPartsUptoRow.holds Try.pinned (OpenSpec.upto backPartsSpec)

/-- 'punnetlaw16.BackChains', WHERE WHAT IT READS IS OF BULK AT MOST 1048576: true; the input reads as it did. -/
def backChainsUptoRow : OpenClaim := { program := "ytdgcbhihmnhnaaa", sum := "c2ad02b2d3318a070438ab706debf73a1b086b0d5799cb3b5cd88b17867ef0bc", func := "punnet/punnetlaw16.BackChains", spec := "backChains", apart := false, narrowed := true }
def BackChainsUptoSaid : Prop := backChainsUptoRow.holds Try.pinned (OpenSpec.upto backChainsSpec)

/-- 'punnetlaw30.TalkTells', WHERE WHAT IT READS IS OF BULK AT MOST 1048576: true; the input reads as it did. -/
def talkTellsUptoRow : OpenClaim := { program := "ytdgcbhihmnhnaaa", sum := "c2ad02b2d3318a070438ab706debf73a1b086b0d5799cb3b5cd88b17867ef0bc", func := "punnet/punnetlaw30.TalkTells", spec := "talkTells", unfollowed := true, recurses := true, apart := false, narrowed := true }
def TalkTellsUptoSaid : Prop := talkTellsUptoRow.holds Try.pinned (OpenSpec.upto talkTellsSpec)

/-- 'punnetlaw14.SchemaRoot', WHERE WHAT IT READS IS OF BULK AT MOST 1048576: true; the input reads as it did. -/
def schemaRootUptoRow : OpenClaim := { program := "ytdgcbhihmnhnaaa", sum := "c2ad02b2d3318a070438ab706debf73a1b086b0d5799cb3b5cd88b17867ef0bc", func := "punnet/punnetlaw14.SchemaRoot", spec := "schemaRoot", apart := false, narrowed := true }
def SchemaRootUptoSaid : Prop := schemaRootUptoRow.holds Try.pinned (OpenSpec.upto schemaRootSpec)

/-- 'punnetlaw14.SchemaKept', WHERE WHAT IT READS IS OF BULK AT MOST 1048576: true; the input reads as it did. -/
def schemaKeptUptoRow : OpenClaim := { program := "ytdgcbhihmnhnaaa", sum := "c2ad02b2d3318a070438ab706debf73a1b086b0d5799cb3b5cd88b17867ef0bc", func := "punnet/punnetlaw14.SchemaKept", spec := "schemaKept", apart := false, narrowed := true }
def SchemaKeptUptoSaid : Prop := schemaKeptUptoRow.holds Try.pinned (OpenSpec.upto schemaKeptSpec)

end Rows
end Go.Proofs.Ytdgcbhihmnhnaaa
