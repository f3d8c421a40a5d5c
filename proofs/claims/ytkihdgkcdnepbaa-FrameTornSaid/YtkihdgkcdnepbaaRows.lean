/-
  No cell of these rows narrows 'for every input' (looked for: loops, veiled, ifaces, maps, wideKeys, modest, calm, conditions, laid).
  DERIVED. THE GIVEN ROWS OF THIS SEAT. 10 by the template 'for every input the law returns true; each argument reads behind the call as it read before'; 0 by the template 'total and deterministic' (their statements: YtkihdgkcdnepbaaTotals.lean).
  GIVEN WITH THE SEED: the statements are not yours to turn. If you find one false, say at which input.
  Laid BY PROGRAM, IN A SANDBOX (cutbox-rows.mjs): the forced cells as the released guide's own fill.sh prints them over the translation dda542646c60cca4… (all of the seat's roots in one cut). By AI agents, Wed Nov 11 2026. No macro, syntax, notation, axiom, sorry.
-/
import Derived.Test.YtkihdgkcdnepbaaChecked
import GoSem.Claim
import GoSem.ClaimJoined
import GoSem.ClaimMapViews
import Derived.JoinedTies
import Derived.KernelRfl
namespace Go.Proofs.Ytkihdgkcdnepbaa
/- THE CELL 'sum', in the pinned program and in every row, IS THE sha256 OF THE DUMP (.gsa) THAT YtkihdgkcdnepbaaProg.lean LOADS. Nothing in Lean hashes anything: it is a label: what it is worth is what the hold of that sum in a sandbox is worth. -/
noncomputable def Try.pinned : Pinned := { name := "ytkihdgkcdnepbaa", sum := "dda542646c60cca47911f0a001e4698fb318e4d71ac903b1fc210bccb16730d8", checked := Try.checked }
namespace Rows
def none {H : Type} : Left H := { results := [], args := [] }

/-- 'punnetlaw06.SumMade': WHATEVER THE INPUT: true; the input reads as it did. -/
def sumMadeSpec : ChangeSpec := { name := "sumMade", fn := fun _ => fun
  | [d] => { results := [.lit (.bool true)], args := [d] }
  | _ => none }
def sumMadeRow : OpenClaim := { program := "ytkihdgkcdnepbaa", sum := "dda542646c60cca47911f0a001e4698fb318e4d71ac903b1fc210bccb16730d8", func := "punnet/punnetlaw06.SumMade", spec := "sumMade", apart := false }
def SumMadeSaid : Prop := sumMadeRow.holds Try.pinned (OpenSpec.ofChange sumMadeSpec)

/-- ITS FALSE NEIGHBOUR: 'it returns false'. Refute it at one input. -/
def sumMadeWrong : ChangeSpec := { name := "sumMade", fn := fun _ => fun
  | [d] => { results := [.lit (.bool false)], args := [d] }
  | _ => none }
def SumMadeWrongFalsely : Prop := sumMadeRow.holds Try.pinned (OpenSpec.ofChange sumMadeWrong)

/-- 'punnetlaw06.SumTells': WHATEVER THE INPUT: true; the input reads as it did. -/
def sumTellsSpec : ChangeSpec := { name := "sumTells", fn := fun _ => fun
  | [d1, d2, d3] => { results := [.lit (.bool true)], args := [d1, d2, d3] }
  | _ => none }
def sumTellsRow : OpenClaim := { program := "ytkihdgkcdnepbaa", sum := "dda542646c60cca47911f0a001e4698fb318e4d71ac903b1fc210bccb16730d8", func := "punnet/punnetlaw06.SumTells", spec := "sumTells", apart := false }
def SumTellsSaid : Prop := sumTellsRow.holds Try.pinned (OpenSpec.ofChange sumTellsSpec)

/-- ITS FALSE NEIGHBOUR: 'it returns false'. Refute it at one input. -/
def sumTellsWrong : ChangeSpec := { name := "sumTells", fn := fun _ => fun
  | [d1, d2, d3] => { results := [.lit (.bool false)], args := [d1, d2, d3] }
  | _ => none }
def SumTellsWrongFalsely : Prop := sumTellsRow.holds Try.pinned (OpenSpec.ofChange sumTellsWrong)

/-- 'punnetlaw06.SumTables': WHATEVER THE INPUT: true; the input reads as it did. -/
def sumTablesSpec : ChangeSpec := { name := "sumTables", fn := fun _ => fun
  | [d1, d2, d3, d4] => { results := [.lit (.bool true)], args := [d1, d2, d3, d4] }
  | _ => none }
def sumTablesRow : OpenClaim := { program := "ytkihdgkcdnepbaa", sum := "dda542646c60cca47911f0a001e4698fb318e4d71ac903b1fc210bccb16730d8", func := "punnet/punnetlaw06.SumTables", spec := "sumTables", apart := false }
def SumTablesSaid : Prop := sumTablesRow.holds Try.pinned (OpenSpec.ofChange sumTablesSpec)

/-- ITS FALSE NEIGHBOUR: 'it returns false'. Refute it at one input. -/
def sumTablesWrong : ChangeSpec := { name := "sumTables", fn := fun _ => fun
  | [d1, d2, d3, d4] => { results := [.lit (.bool false)], args := [d1, d2, d3, d4] }
  | _ => none }
def SumTablesWrongFalsely : Prop := sumTablesRow.holds Try.pinned (OpenSpec.ofChange sumTablesWrong)

/-- 'punnetlaw04.CodeTurns': WHATEVER THE INPUT: true; the input reads as it did. -/
def codeTurnsSpec : ChangeSpec := { name := "codeTurns", fn := fun _ => fun
  | [d1, d2, d3] => { results := [.lit (.bool true)], args := [d1, d2, d3] }
  | _ => none }
def codeTurnsRow : OpenClaim := { program := "ytkihdgkcdnepbaa", sum := "dda542646c60cca47911f0a001e4698fb318e4d71ac903b1fc210bccb16730d8", func := "punnet/punnetlaw04.CodeTurns", spec := "codeTurns", apart := false }
def CodeTurnsSaid : Prop := codeTurnsRow.holds Try.pinned (OpenSpec.ofChange codeTurnsSpec)

/-- ITS FALSE NEIGHBOUR: 'it returns false'. Refute it at one input. -/
def codeTurnsWrong : ChangeSpec := { name := "codeTurns", fn := fun _ => fun
  | [d1, d2, d3] => { results := [.lit (.bool false)], args := [d1, d2, d3] }
  | _ => none }
def CodeTurnsWrongFalsely : Prop := codeTurnsRow.holds Try.pinned (OpenSpec.ofChange codeTurnsWrong)

/-- 'punnetlaw07.FrameTells': WHATEVER THE INPUT: true; the input reads as it did. -/
def frameTellsSpec : ChangeSpec := { name := "frameTells", fn := fun _ => fun
  | [d1, d2, d3] => { results := [.lit (.bool true)], args := [d1, d2, d3] }
  | _ => none }
def frameTellsRow : OpenClaim := { program := "ytkihdgkcdnepbaa", sum := "dda542646c60cca47911f0a001e4698fb318e4d71ac903b1fc210bccb16730d8", func := "punnet/punnetlaw07.FrameTells", spec := "frameTells", apart := false }
def FrameTellsSaid : Prop := frameTellsRow.holds Try.pinned (OpenSpec.ofChange frameTellsSpec)

/-- ITS FALSE NEIGHBOUR: 'it returns false'. Refute it at one input. -/
def frameTellsWrong : ChangeSpec := { name := "frameTells", fn := fun _ => fun
  | [d1, d2, d3] => { results := [.lit (.bool false)], args := [d1, d2, d3] }
  | _ => none }
def FrameTellsWrongFalsely : Prop := frameTellsRow.holds Try.pinned (OpenSpec.ofChange frameTellsWrong)

/-- 'punnetlaw07.FramePuts': WHATEVER THE INPUT: true; the input reads as it did. -/
def framePutsSpec : ChangeSpec := { name := "framePuts", fn := fun _ => fun
  | [d1, d2, d3, d4, d5] => { results := [.lit (.bool true)], args := [d1, d2, d3, d4, d5] }
  | _ => none }
def framePutsRow : OpenClaim := { program := "ytkihdgkcdnepbaa", sum := "dda542646c60cca47911f0a001e4698fb318e4d71ac903b1fc210bccb16730d8", func := "punnet/punnetlaw07.FramePuts", spec := "framePuts", apart := false }
def FramePutsSaid : Prop := framePutsRow.holds Try.pinned (OpenSpec.ofChange framePutsSpec)

/-- ITS FALSE NEIGHBOUR: 'it returns false'. Refute it at one input. -/
def framePutsWrong : ChangeSpec := { name := "framePuts", fn := fun _ => fun
  | [d1, d2, d3, d4, d5] => { results := [.lit (.bool false)], args := [d1, d2, d3, d4, d5] }
  | _ => none }
def FramePutsWrongFalsely : Prop := framePutsRow.holds Try.pinned (OpenSpec.ofChange framePutsWrong)

/-- 'punnetlaw07.FrameGets': WHATEVER THE INPUT: true; the input reads as it did. -/
def frameGetsSpec : ChangeSpec := { name := "frameGets", fn := fun _ => fun
  | [d1, d2, d3] => { results := [.lit (.bool true)], args := [d1, d2, d3] }
  | _ => none }
def frameGetsRow : OpenClaim := { program := "ytkihdgkcdnepbaa", sum := "dda542646c60cca47911f0a001e4698fb318e4d71ac903b1fc210bccb16730d8", func := "punnet/punnetlaw07.FrameGets", spec := "frameGets", apart := false }
def FrameGetsSaid : Prop := frameGetsRow.holds Try.pinned (OpenSpec.ofChange frameGetsSpec)

/-- ITS FALSE NEIGHBOUR: 'it returns false'. Refute it at one input. -/
def frameGetsWrong : ChangeSpec := { name := "frameGets", fn := fun _ => fun
  | [d1, d2, d3] => { results := [.lit (.bool false)], args := [d1, d2, d3] }
  | _ => none }
def FrameGetsWrongFalsely : Prop := frameGetsRow.holds Try.pinned (OpenSpec.ofChange frameGetsWrong)

/-- 'punnetlaw07.FrameTorn': WHATEVER THE INPUT: true; the input reads as it did. -/
def frameTornSpec : ChangeSpec := { name := "frameTorn", fn := fun _ => fun
  | [d1, d2, d3] => { results := [.lit (.bool true)], args := [d1, d2, d3] }
  | _ => none }
def frameTornRow : OpenClaim := { program := "ytkihdgkcdnepbaa", sum := "dda542646c60cca47911f0a001e4698fb318e4d71ac903b1fc210bccb16730d8", func := "punnet/punnetlaw07.FrameTorn", spec := "frameTorn", apart := false }
def FrameTornSaid : Prop := frameTornRow.holds Try.pinned (OpenSpec.ofChange frameTornSpec)

/-- ITS FALSE NEIGHBOUR: 'it returns false'. Refute it at one input. -/
def frameTornWrong : ChangeSpec := { name := "frameTorn", fn := fun _ => fun
  | [d1, d2, d3] => { results := [.lit (.bool false)], args := [d1, d2, d3] }
  | _ => none }
def FrameTornWrongFalsely : Prop := frameTornRow.holds Try.pinned (OpenSpec.ofChange frameTornWrong)

/-- 'punnetlaw04.CodePuts': WHATEVER THE INPUT: true; the input reads as it did. -/
def codePutsSpec : ChangeSpec := { name := "codePuts", fn := fun _ => fun
  | [d1, d2, d3, d4] => { results := [.lit (.bool true)], args := [d1, d2, d3, d4] }
  | _ => none }
def codePutsRow : OpenClaim := { program := "ytkihdgkcdnepbaa", sum := "dda542646c60cca47911f0a001e4698fb318e4d71ac903b1fc210bccb16730d8", func := "punnet/punnetlaw04.CodePuts", spec := "codePuts", apart := false }
def CodePutsSaid : Prop := codePutsRow.holds Try.pinned (OpenSpec.ofChange codePutsSpec)

/-- ITS FALSE NEIGHBOUR: 'it returns false'. Refute it at one input. -/
def codePutsWrong : ChangeSpec := { name := "codePuts", fn := fun _ => fun
  | [d1, d2, d3, d4] => { results := [.lit (.bool false)], args := [d1, d2, d3, d4] }
  | _ => none }
def CodePutsWrongFalsely : Prop := codePutsRow.holds Try.pinned (OpenSpec.ofChange codePutsWrong)

/-- 'punnetlaw04.CodeGets': WHATEVER THE INPUT: true; the input reads as it did. -/
def codeGetsSpec : ChangeSpec := { name := "codeGets", fn := fun _ => fun
  | [d1, d2, d3] => { results := [.lit (.bool true)], args := [d1, d2, d3] }
  | _ => none }
def codeGetsRow : OpenClaim := { program := "ytkihdgkcdnepbaa", sum := "dda542646c60cca47911f0a001e4698fb318e4d71ac903b1fc210bccb16730d8", func := "punnet/punnetlaw04.CodeGets", spec := "codeGets", apart := false }
def CodeGetsSaid : Prop := codeGetsRow.holds Try.pinned (OpenSpec.ofChange codeGetsSpec)

/-- ITS FALSE NEIGHBOUR: 'it returns false'. Refute it at one input. -/
def codeGetsWrong : ChangeSpec := { name := "codeGets", fn := fun _ => fun
  | [d1, d2, d3] => { results := [.lit (.bool false)], args := [d1, d2, d3] }
  | _ => none }
def CodeGetsWrongFalsely : Prop := codeGetsRow.holds Try.pinned (OpenSpec.ofChange codeGetsWrong)

/- THE SECOND FORM. 'bulk': how many values and letters a reading holds, each counted each time it is reached (what is shared counts as often as it is met; a slice's spare places count too). A statement '..UptoSaid' is the law's where the arguments, and the package variables that the reading takes, are together of bulk at most 1048576: NARROWER than '..Said'. Prove '..Said' where nothing that the law and all that it calls make is longer than what came in: it says more and counts as full. Else prove '..UptoSaid'. A law counts once. -/
mutual
def uptoBulk {H : Type} : DataW H → Nat
  | .lit (.string bytes) => bytes.length + 1
  | .lit _ => 1
  | .nil => 1
  | .ptr d => uptoBulk d + 1
  | .slice elems spare => uptoBulkAll elems + uptoBulkAll spare + 1
  | .agg parts => uptoBulkAll parts + 1
  | .iface _ d => uptoBulk d + 1
  | .map entries => uptoBulkEntries entries + 1
  | .held _ => 1
def uptoBulkAll {H : Type} : List (DataW H) → Nat
  | [] => 0
  | d :: r => uptoBulk d + uptoBulkAll r
def uptoBulkEntries {H : Type} : List (Lit × DataW H) → Nat
  | [] => 0
  | x :: r => uptoBulkEntry x + uptoBulkEntries r
def uptoBulkEntry {H : Type} : Lit × DataW H → Nat
  | (.string bytes, d) => bytes.length + uptoBulk d + 1
  | (_, d) => uptoBulk d + 1
 end
def uptoSmall : (H : Type) → List (DataW H) → Bool := fun _ ds => decide (uptoBulkAll ds ≤ 1048576)
def OpenSpec.upto (s : _root_.Go.ChangeSpec) : _root_.Go.OpenSpec := { _root_.Go.OpenSpec.ofChange s with cond := some uptoSmall }

/-- 'punnetlaw06.SumMade', WHERE WHAT IT READS IS OF BULK AT MOST 1048576: true; the input reads as it did. -/
def sumMadeUptoRow : OpenClaim := { program := "ytkihdgkcdnepbaa", sum := "dda542646c60cca47911f0a001e4698fb318e4d71ac903b1fc210bccb16730d8", func := "punnet/punnetlaw06.SumMade", spec := "sumMade", apart := false, narrowed := true }
def SumMadeUptoSaid : Prop := sumMadeUptoRow.holds Try.pinned (OpenSpec.upto sumMadeSpec)

/-- 'punnetlaw06.SumTells', WHERE WHAT IT READS IS OF BULK AT MOST 1048576: true; the input reads as it did. -/
def sumTellsUptoRow : OpenClaim := { program := "ytkihdgkcdnepbaa", sum := "dda542646c60cca47911f0a001e4698fb318e4d71ac903b1fc210bccb16730d8", func := "punnet/punnetlaw06.SumTells", spec := "sumTells", apart := false, narrowed := true }
def SumTellsUptoSaid : Prop := sumTellsUptoRow.holds Try.pinned (OpenSpec.upto sumTellsSpec)

/-- 'punnetlaw06.SumTables', WHERE WHAT IT READS IS OF BULK AT MOST 1048576: true; the input reads as it did. -/
def sumTablesUptoRow : OpenClaim := { program := "ytkihdgkcdnepbaa", sum := "dda542646c60cca47911f0a001e4698fb318e4d71ac903b1fc210bccb16730d8", func := "punnet/punnetlaw06.SumTables", spec := "sumTables", apart := false, narrowed := true }
def SumTablesUptoSaid : Prop := sumTablesUptoRow.holds Try.pinned (OpenSpec.upto sumTablesSpec)

/-- 'punnetlaw04.CodeTurns', WHERE WHAT IT READS IS OF BULK AT MOST 1048576: true; the input reads as it did. -/
def codeTurnsUptoRow : OpenClaim := { program := "ytkihdgkcdnepbaa", sum := "dda542646c60cca47911f0a001e4698fb318e4d71ac903b1fc210bccb16730d8", func := "punnet/punnetlaw04.CodeTurns", spec := "codeTurns", apart := false, narrowed := true }
def CodeTurnsUptoSaid : Prop := codeTurnsUptoRow.holds Try.pinned (OpenSpec.upto codeTurnsSpec)

/-- 'punnetlaw07.FrameTells', WHERE WHAT IT READS IS OF BULK AT MOST 1048576: true; the input reads as it did. -/
def frameTellsUptoRow : OpenClaim := { program := "ytkihdgkcdnepbaa", sum := "dda542646c60cca47911f0a001e4698fb318e4d71ac903b1fc210bccb16730d8", func := "punnet/punnetlaw07.FrameTells", spec := "frameTells", apart := false, narrowed := true }
def FrameTellsUptoSaid : Prop := frameTellsUptoRow.holds Try.pinned (OpenSpec.upto frameTellsSpec)

/-- 'punnetlaw07.FramePuts', WHERE WHAT IT READS IS OF BULK AT MOST 1048576: true; the input reads as it did. -/
def framePutsUptoRow : OpenClaim := { program := "ytkihdgkcdnepbaa", sum := "dda542646c60cca47911f0a001e4698fb318e4d71ac903b1fc210bccb16730d8", func := "punnet/punnetlaw07.FramePuts", spec := "framePuts", apart := false, narrowed := true }
def FramePutsUptoSaid : Prop := framePutsUptoRow.holds Try.pinned (OpenSpec.upto framePutsSpec)

/-- 'punnetlaw07.FrameGets', WHERE WHAT IT READS IS OF BULK AT MOST 1048576: true; the input reads as it did. -/
def frameGetsUptoRow : OpenClaim := { program := "ytkihdgkcdnepbaa", sum := "dda542646c60cca47911f0a001e4698fb318e4d71ac903b1fc210bccb16730d8", func := "punnet/punnetlaw07.FrameGets", spec := "frameGets", apart := false, narrowed := true }
def FrameGetsUptoSaid : Prop := frameGetsUptoRow.holds Try.pinned (OpenSpec.upto frameGetsSpec)

/-- 'punnetlaw07.FrameTorn', WHERE WHAT IT READS IS OF BULK AT MOST 1048576: true; the input reads as it did. -/
def frameTornUptoRow : OpenClaim := { program := "ytkihdgkcdnepbaa", sum := "dda542646c60cca47911f0a001e4698fb318e4d71ac903b1fc210bccb16730d8", func := "punnet/punnetlaw07.FrameTorn", spec := "frameTorn", apart := false, narrowed := true }
def FrameTornUptoSaid : Prop := frameTornUptoRow.holds Try.pinned (OpenSpec.upto frameTornSpec)

/-- 'punnetlaw04.CodePuts', WHERE WHAT IT READS IS OF BULK AT MOST 1048576: true; the input reads as it did. -/
def codePutsUptoRow : OpenClaim := { program := "ytkihdgkcdnepbaa", sum := "dda542646c60cca47911f0a001e4698fb318e4d71ac903b1fc210bccb16730d8", func := "punnet/punnetlaw04.CodePuts", spec := "codePuts", apart := false, narrowed := true }
def CodePutsUptoSaid : Prop := codePutsUptoRow.holds Try.pinned (OpenSpec.upto codePutsSpec)

/-- 'punnetlaw04.CodeGets', WHERE WHAT IT READS IS OF BULK AT MOST 1048576: true; the input reads as it did. -/
def codeGetsUptoRow : OpenClaim := { program := "ytkihdgkcdnepbaa", sum := "dda542646c60cca47911f0a001e4698fb318e4d71ac903b1fc210bccb16730d8", func := "punnet/punnetlaw04.CodeGets", spec := "codeGets", apart := false, narrowed := true }
def CodeGetsUptoSaid : Prop := codeGetsUptoRow.holds Try.pinned (OpenSpec.upto codeGetsSpec)

end Rows
end Go.Proofs.Ytkihdgkcdnepbaa
