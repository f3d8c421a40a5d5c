/-
  No cell of these rows narrows 'for every input' (looked for: loops, veiled, ifaces, maps, wideKeys, modest, calm, conditions, laid).
  DERIVED. THE GIVEN ROWS OF THIS SEAT. 13 by the template 'for every input the law returns true; each argument reads behind the call as it read before'; 0 by the template 'total and deterministic' (their statements: YtgjpeldgjpgbcaaTotals.lean).
  GIVEN WITH THE SEED: the statements are not yours to turn. If you find one false, say at which input.
  Laid BY PROGRAM, IN A SANDBOX (cutbox-rows.mjs): the forced cells as the released guide's own fill.sh prints them over the translation 3bf234d27afbdc41… (all of the seat's roots in one cut). By AI agents, Wed Nov 11 2026. No macro, syntax, notation, axiom, sorry.
-/
import Derived.Test.YtgjpeldgjpgbcaaChecked
import GoSem.Claim
import GoSem.ClaimJoined
import GoSem.ClaimMapViews
import Derived.JoinedTies
import Derived.KernelRfl
namespace Go.Proofs.Ytgjpeldgjpgbcaa
/- THE CELL 'sum', in the pinned program and in every row, IS THE sha256 OF THE DUMP (.gsa) THAT YtgjpeldgjpgbcaaProg.lean LOADS. Nothing in Lean hashes anything: it is a label: what it is worth is what the hold of that sum in a sandbox is worth. -/
noncomputable def Try.pinned : Pinned := { name := "ytgjpeldgjpgbcaa", sum := "3bf234d27afbdc413673f783a7a3acce8ffe45429884096dec52f12a1214a4bb", checked := Try.checked }
namespace Rows
def none {H : Type} : Left H := { results := [], args := [] }

/-- 'punnetlaw09.DiskAgain': WHATEVER THE INPUT: true; the input reads as it did. -/
def diskAgainSpec : ChangeSpec := { name := "diskAgain", fn := fun _ => fun
  | [d1, d2] => { results := [.lit (.bool true)], args := [d1, d2] }
  | _ => none }
def diskAgainRow : OpenClaim := { program := "ytgjpeldgjpgbcaa", sum := "3bf234d27afbdc413673f783a7a3acce8ffe45429884096dec52f12a1214a4bb", func := "punnet/punnetlaw09.DiskAgain", spec := "diskAgain", apart := false }
def DiskAgainSaid : Prop := diskAgainRow.holds Try.pinned (OpenSpec.ofChange diskAgainSpec)

/-- ITS FALSE NEIGHBOUR: 'it returns false'. Refute it at one input. -/
def diskAgainWrong : ChangeSpec := { name := "diskAgain", fn := fun _ => fun
  | [d1, d2] => { results := [.lit (.bool false)], args := [d1, d2] }
  | _ => none }
def DiskAgainWrongFalsely : Prop := diskAgainRow.holds Try.pinned (OpenSpec.ofChange diskAgainWrong)

/-- 'punnetlaw09.DiskLasts': WHATEVER THE INPUT: true; the input reads as it did. -/
def diskLastsSpec : ChangeSpec := { name := "diskLasts", fn := fun _ => fun
  | [d1, d2, d3, d4] => { results := [.lit (.bool true)], args := [d1, d2, d3, d4] }
  | _ => none }
def diskLastsRow : OpenClaim := { program := "ytgjpeldgjpgbcaa", sum := "3bf234d27afbdc413673f783a7a3acce8ffe45429884096dec52f12a1214a4bb", func := "punnet/punnetlaw09.DiskLasts", spec := "diskLasts", apart := false }
def DiskLastsSaid : Prop := diskLastsRow.holds Try.pinned (OpenSpec.ofChange diskLastsSpec)

/-- ITS FALSE NEIGHBOUR: 'it returns false'. Refute it at one input. -/
def diskLastsWrong : ChangeSpec := { name := "diskLasts", fn := fun _ => fun
  | [d1, d2, d3, d4] => { results := [.lit (.bool false)], args := [d1, d2, d3, d4] }
  | _ => none }
def DiskLastsWrongFalsely : Prop := diskLastsRow.holds Try.pinned (OpenSpec.ofChange diskLastsWrong)

/-- 'punnetlaw09.DiskNil': WHATEVER THE INPUT: true; the input reads as it did. -/
def diskNilSpec : ChangeSpec := { name := "diskNil", fn := fun _ => fun
  | [d1, d2, d3] => { results := [.lit (.bool true)], args := [d1, d2, d3] }
  | _ => none }
def diskNilRow : OpenClaim := { program := "ytgjpeldgjpgbcaa", sum := "3bf234d27afbdc413673f783a7a3acce8ffe45429884096dec52f12a1214a4bb", func := "punnet/punnetlaw09.DiskNil", spec := "diskNil", apart := false }
def DiskNilSaid : Prop := diskNilRow.holds Try.pinned (OpenSpec.ofChange diskNilSpec)

/-- ITS FALSE NEIGHBOUR: 'it returns false'. Refute it at one input. -/
def diskNilWrong : ChangeSpec := { name := "diskNil", fn := fun _ => fun
  | [d1, d2, d3] => { results := [.lit (.bool false)], args := [d1, d2, d3] }
  | _ => none }
def DiskNilWrongFalsely : Prop := diskNilRow.holds Try.pinned (OpenSpec.ofChange diskNilWrong)

/-- 'punnetlaw10.LogLasts': WHATEVER THE INPUT: true; the input reads as it did. -/
def logLastsSpec : ChangeSpec := { name := "logLasts", fn := fun _ => fun
  | [d1, d2, d3, d4, d5] => { results := [.lit (.bool true)], args := [d1, d2, d3, d4, d5] }
  | _ => none }
def logLastsRow : OpenClaim := { program := "ytgjpeldgjpgbcaa", sum := "3bf234d27afbdc413673f783a7a3acce8ffe45429884096dec52f12a1214a4bb", func := "punnet/punnetlaw10.LogLasts", spec := "logLasts", unfollowed := true, recurses := true, apart := false }
def LogLastsSaid : Prop := logLastsRow.holds Try.pinned (OpenSpec.ofChange logLastsSpec)

/-- ITS FALSE NEIGHBOUR: 'it returns false'. Refute it at one input. -/
def logLastsWrong : ChangeSpec := { name := "logLasts", fn := fun _ => fun
  | [d1, d2, d3, d4, d5] => { results := [.lit (.bool false)], args := [d1, d2, d3, d4, d5] }
  | _ => none }
def LogLastsWrongFalsely : Prop := logLastsRow.holds Try.pinned (OpenSpec.ofChange logLastsWrong)

/-- 'punnetlaw10.LogReads': WHATEVER THE INPUT: true; the input reads as it did. -/
def logReadsSpec : ChangeSpec := { name := "logReads", fn := fun _ => fun
  | [d1, d2, d3, d4, d5] => { results := [.lit (.bool true)], args := [d1, d2, d3, d4, d5] }
  | _ => none }
def logReadsRow : OpenClaim := { program := "ytgjpeldgjpgbcaa", sum := "3bf234d27afbdc413673f783a7a3acce8ffe45429884096dec52f12a1214a4bb", func := "punnet/punnetlaw10.LogReads", spec := "logReads", unfollowed := true, recurses := true, apart := false }
def LogReadsSaid : Prop := logReadsRow.holds Try.pinned (OpenSpec.ofChange logReadsSpec)

/-- ITS FALSE NEIGHBOUR: 'it returns false'. Refute it at one input. -/
def logReadsWrong : ChangeSpec := { name := "logReads", fn := fun _ => fun
  | [d1, d2, d3, d4, d5] => { results := [.lit (.bool false)], args := [d1, d2, d3, d4, d5] }
  | _ => none }
def LogReadsWrongFalsely : Prop := logReadsRow.holds Try.pinned (OpenSpec.ofChange logReadsWrong)

/-- 'punnetlaw10.LogNil': WHATEVER THE INPUT: true; the input reads as it did. -/
def logNilSpec : ChangeSpec := { name := "logNil", fn := fun _ => fun
  | [d1, d2] => { results := [.lit (.bool true)], args := [d1, d2] }
  | _ => none }
def logNilRow : OpenClaim := { program := "ytgjpeldgjpgbcaa", sum := "3bf234d27afbdc413673f783a7a3acce8ffe45429884096dec52f12a1214a4bb", func := "punnet/punnetlaw10.LogNil", spec := "logNil", unfollowed := true, recurses := true, apart := false }
def LogNilSaid : Prop := logNilRow.holds Try.pinned (OpenSpec.ofChange logNilSpec)

/-- ITS FALSE NEIGHBOUR: 'it returns false'. Refute it at one input. -/
def logNilWrong : ChangeSpec := { name := "logNil", fn := fun _ => fun
  | [d1, d2] => { results := [.lit (.bool false)], args := [d1, d2] }
  | _ => none }
def LogNilWrongFalsely : Prop := logNilRow.holds Try.pinned (OpenSpec.ofChange logNilWrong)

/-- 'punnetlaw11.SlotsFirst': WHATEVER THE INPUT: true; the input reads as it did. -/
def slotsFirstSpec : ChangeSpec := { name := "slotsFirst", fn := fun _ => fun
  | [d1, d2, d3, d4, d5] => { results := [.lit (.bool true)], args := [d1, d2, d3, d4, d5] }
  | _ => none }
def slotsFirstRow : OpenClaim := { program := "ytgjpeldgjpgbcaa", sum := "3bf234d27afbdc413673f783a7a3acce8ffe45429884096dec52f12a1214a4bb", func := "punnet/punnetlaw11.SlotsFirst", spec := "slotsFirst", apart := false }
def SlotsFirstSaid : Prop := slotsFirstRow.holds Try.pinned (OpenSpec.ofChange slotsFirstSpec)

/-- ITS FALSE NEIGHBOUR: 'it returns false'. Refute it at one input. -/
def slotsFirstWrong : ChangeSpec := { name := "slotsFirst", fn := fun _ => fun
  | [d1, d2, d3, d4, d5] => { results := [.lit (.bool false)], args := [d1, d2, d3, d4, d5] }
  | _ => none }
def SlotsFirstWrongFalsely : Prop := slotsFirstRow.holds Try.pinned (OpenSpec.ofChange slotsFirstWrong)

/-- 'punnetlaw11.SlotsReads': WHATEVER THE INPUT: true; the input reads as it did. -/
def slotsReadsSpec : ChangeSpec := { name := "slotsReads", fn := fun _ => fun
  | [d1, d2, d3, d4, d5] => { results := [.lit (.bool true)], args := [d1, d2, d3, d4, d5] }
  | _ => none }
def slotsReadsRow : OpenClaim := { program := "ytgjpeldgjpgbcaa", sum := "3bf234d27afbdc413673f783a7a3acce8ffe45429884096dec52f12a1214a4bb", func := "punnet/punnetlaw11.SlotsReads", spec := "slotsReads", apart := false }
def SlotsReadsSaid : Prop := slotsReadsRow.holds Try.pinned (OpenSpec.ofChange slotsReadsSpec)

/-- ITS FALSE NEIGHBOUR: 'it returns false'. Refute it at one input. -/
def slotsReadsWrong : ChangeSpec := { name := "slotsReads", fn := fun _ => fun
  | [d1, d2, d3, d4, d5] => { results := [.lit (.bool false)], args := [d1, d2, d3, d4, d5] }
  | _ => none }
def SlotsReadsWrongFalsely : Prop := slotsReadsRow.holds Try.pinned (OpenSpec.ofChange slotsReadsWrong)

/-- 'punnetlaw11.SlotsAgain': WHATEVER THE INPUT: true; the input reads as it did. -/
def slotsAgainSpec : ChangeSpec := { name := "slotsAgain", fn := fun _ => fun
  | [d1, d2, d3] => { results := [.lit (.bool true)], args := [d1, d2, d3] }
  | _ => none }
def slotsAgainRow : OpenClaim := { program := "ytgjpeldgjpgbcaa", sum := "3bf234d27afbdc413673f783a7a3acce8ffe45429884096dec52f12a1214a4bb", func := "punnet/punnetlaw11.SlotsAgain", spec := "slotsAgain", apart := false }
def SlotsAgainSaid : Prop := slotsAgainRow.holds Try.pinned (OpenSpec.ofChange slotsAgainSpec)

/-- ITS FALSE NEIGHBOUR: 'it returns false'. Refute it at one input. -/
def slotsAgainWrong : ChangeSpec := { name := "slotsAgain", fn := fun _ => fun
  | [d1, d2, d3] => { results := [.lit (.bool false)], args := [d1, d2, d3] }
  | _ => none }
def SlotsAgainWrongFalsely : Prop := slotsAgainRow.holds Try.pinned (OpenSpec.ofChange slotsAgainWrong)

/-- 'punnetlaw11.SlotsNil': WHATEVER THE INPUT: true; the input reads as it did. -/
def slotsNilSpec : ChangeSpec := { name := "slotsNil", fn := fun _ => fun
  | [d1, d2] => { results := [.lit (.bool true)], args := [d1, d2] }
  | _ => none }
def slotsNilRow : OpenClaim := { program := "ytgjpeldgjpgbcaa", sum := "3bf234d27afbdc413673f783a7a3acce8ffe45429884096dec52f12a1214a4bb", func := "punnet/punnetlaw11.SlotsNil", spec := "slotsNil", apart := false }
def SlotsNilSaid : Prop := slotsNilRow.holds Try.pinned (OpenSpec.ofChange slotsNilSpec)

/-- ITS FALSE NEIGHBOUR: 'it returns false'. Refute it at one input. -/
def slotsNilWrong : ChangeSpec := { name := "slotsNil", fn := fun _ => fun
  | [d1, d2] => { results := [.lit (.bool false)], args := [d1, d2] }
  | _ => none }
def SlotsNilWrongFalsely : Prop := slotsNilRow.holds Try.pinned (OpenSpec.ofChange slotsNilWrong)

/-- 'punnetlaw12.VaultTurns': WHATEVER THE INPUT: true; the input reads as it did. -/
def vaultTurnsSpec : ChangeSpec := { name := "vaultTurns", fn := fun _ => fun
  | [d1, d2, d3] => { results := [.lit (.bool true)], args := [d1, d2, d3] }
  | _ => none }
def vaultTurnsRow : OpenClaim := { program := "ytgjpeldgjpgbcaa", sum := "3bf234d27afbdc413673f783a7a3acce8ffe45429884096dec52f12a1214a4bb", func := "punnet/punnetlaw12.VaultTurns", spec := "vaultTurns", unfollowed := true, recurses := true, apart := false }
def VaultTurnsSaid : Prop := vaultTurnsRow.holds Try.pinned (OpenSpec.ofChange vaultTurnsSpec)

/-- ITS FALSE NEIGHBOUR: 'it returns false'. Refute it at one input. -/
def vaultTurnsWrong : ChangeSpec := { name := "vaultTurns", fn := fun _ => fun
  | [d1, d2, d3] => { results := [.lit (.bool false)], args := [d1, d2, d3] }
  | _ => none }
def VaultTurnsWrongFalsely : Prop := vaultTurnsRow.holds Try.pinned (OpenSpec.ofChange vaultTurnsWrong)

/-- 'punnetlaw12.VaultLasts': WHATEVER THE INPUT: true; the input reads as it did. -/
def vaultLastsSpec : ChangeSpec := { name := "vaultLasts", fn := fun _ => fun
  | [d1, d2, d3, d4, d5] => { results := [.lit (.bool true)], args := [d1, d2, d3, d4, d5] }
  | _ => none }
def vaultLastsRow : OpenClaim := { program := "ytgjpeldgjpgbcaa", sum := "3bf234d27afbdc413673f783a7a3acce8ffe45429884096dec52f12a1214a4bb", func := "punnet/punnetlaw12.VaultLasts", spec := "vaultLasts", unfollowed := true, recurses := true, apart := false }
def VaultLastsSaid : Prop := vaultLastsRow.holds Try.pinned (OpenSpec.ofChange vaultLastsSpec)

/-- ITS FALSE NEIGHBOUR: 'it returns false'. Refute it at one input. -/
def vaultLastsWrong : ChangeSpec := { name := "vaultLasts", fn := fun _ => fun
  | [d1, d2, d3, d4, d5] => { results := [.lit (.bool false)], args := [d1, d2, d3, d4, d5] }
  | _ => none }
def VaultLastsWrongFalsely : Prop := vaultLastsRow.holds Try.pinned (OpenSpec.ofChange vaultLastsWrong)

/-- 'punnetlaw12.VaultNil': WHATEVER THE INPUT: true; the input reads as it did. -/
def vaultNilSpec : ChangeSpec := { name := "vaultNil", fn := fun _ => fun
  | [d] => { results := [.lit (.bool true)], args := [d] }
  | _ => none }
def vaultNilRow : OpenClaim := { program := "ytgjpeldgjpgbcaa", sum := "3bf234d27afbdc413673f783a7a3acce8ffe45429884096dec52f12a1214a4bb", func := "punnet/punnetlaw12.VaultNil", spec := "vaultNil", unfollowed := true, recurses := true, apart := false }
def VaultNilSaid : Prop := vaultNilRow.holds Try.pinned (OpenSpec.ofChange vaultNilSpec)

/-- ITS FALSE NEIGHBOUR: 'it returns false'. Refute it at one input. -/
def vaultNilWrong : ChangeSpec := { name := "vaultNil", fn := fun _ => fun
  | [d] => { results := [.lit (.bool false)], args := [d] }
  | _ => none }
def VaultNilWrongFalsely : Prop := vaultNilRow.holds Try.pinned (OpenSpec.ofChange vaultNilWrong)

/- THE SECOND FORM. 'bulk': how many values and letters a reading holds, each counted each time it is reached (what is shared counts as often as it is met; a slice's spare places count too). A statement '..UptoSaid' is the law's where the arguments, and the package variables that the reading takes, are together of bulk at most 1048576: NARROWER than '..Said'. Prove '..Said' where nothing that the law and all that it calls make is longer than what came in: it says more and counts as full. Else prove '..UptoSaid'. A law counts once. -/
mutual
def uptoBulk {H : Type} : DataW H → Nat
  | .lit (.string bytes) => bytes.length + 1
  | .lit _ => 1
  | .nil => 1
  | .ptr d => uptoBulk d + 1
  | .slice elems spare => uptoBulkAll elems + uptoBulkAll spare + 1
  | .agg parts => uptoBulkAll parts + 1
  | .iface _ d => uptoBulk d + 1
  | .map entries => uptoBulkEntries entries + 1
  | .held _ => 1
def uptoBulkAll {H : Type} : List (DataW H) → Nat
  | [] => 0
  | d :: r => uptoBulk d + uptoBulkAll r
def uptoBulkEntries {H : Type} : List (Lit × DataW H) → Nat
  | [] => 0
  | x :: r => uptoBulkEntry x + uptoBulkEntries r
def uptoBulkEntry {H : Type} : Lit × DataW H → Nat
  | (.string bytes, d) => bytes.length + uptoBulk d + 1
  | (_, d) => uptoBulk d + 1
 end
def uptoSmall : (H : Type) → List (DataW H) → Bool := fun _ ds => decide (uptoBulkAll ds ≤ 1048576)
def OpenSpec.upto (s : _root_.Go.ChangeSpec) : _root_.Go.OpenSpec := { _root_.Go.OpenSpec.ofChange s with cond := some uptoSmall }

/-- 'punnetlaw09.DiskAgain', WHERE WHAT IT READS IS OF BULK AT MOST 1048576: true; the input reads as it did. -/
def diskAgainUptoRow : OpenClaim := { program := "ytgjpeldgjpgbcaa", sum := "3bf234d27afbdc413673f783a7a3acce8ffe45429884096dec52f12a1214a4bb", func := "punnet/punnetlaw09.DiskAgain", spec := "diskAgain", apart := false, narrowed := true }
def DiskAgainUptoSaid : Prop := diskAgainUptoRow.holds Try.pinned (OpenSpec.upto diskAgainSpec)

/-- 'punnetlaw09.DiskLasts', WHERE WHAT IT READS IS OF BULK AT MOST 1048576: true; the input reads as it did. -/
def diskLastsUptoRow : OpenClaim := { program := "ytgjpeldgjpgbcaa", sum := "3bf234d27afbdc413673f783a7a3acce8ffe45429884096dec52f12a1214a4bb", func := "punnet/punnetlaw09.DiskLasts", spec := "diskLasts", apart := false, narrowed := true }
def DiskLastsUptoSaid : Prop := diskLastsUptoRow.holds Try.pinned (OpenSpec.upto diskLastsSpec)

/-- 'punnetlaw09.DiskNil', WHERE WHAT IT READS IS OF BULK AT MOST 1048576: true; the input reads as it did. -/
def diskNilUptoRow : OpenClaim := { program := "ytgjpeldgjpgbcaa", sum := "3bf234d27afbdc413673f783a7a3acce8ffe45429884096dec52f12a1214a4bb", func := "punnet/punnetlaw09.DiskNil", spec := "diskNil", apart := false, narrowed := true }
def DiskNilUptoSaid : Prop := diskNilUptoRow.holds Try.pinned (OpenSpec.upto diskNilSpec)

/-- 'punnetlaw10.LogLasts', WHERE WHAT IT READS IS OF BULK AT MOST 1048576: true; the input reads as it did. -/
def logLastsUptoRow : OpenClaim := { program := "ytgjpeldgjpgbcaa", sum := "3bf234d27afbdc413673f783a7a3acce8ffe45429884096dec52f12a1214a4bb", func := "punnet/punnetlaw10.LogLasts", spec := "logLasts", unfollowed := true, recurses := true, apart := false, narrowed := true }
def LogLastsUptoSaid : Prop := logLastsUptoRow.holds Try.pinned (OpenSpec.upto logLastsSpec)

/-- 'punnetlaw10.LogReads', WHERE WHAT IT READS IS OF BULK AT MOST 1048576: true; the input reads as it did. -/
def logReadsUptoRow : OpenClaim := { program := "ytgjpeldgjpgbcaa", sum := "3bf234d27afbdc413673f783a7a3acce8ffe45429884096dec52f12a1214a4bb", func := "punnet/punnetlaw10.LogReads", spec := "logReads", unfollowed := true, recurses := true, apart := false, narrowed := true }
def LogReadsUptoSaid : Prop := logReadsUptoRow.holds Try.pinned (OpenSpec.upto logReadsSpec)

/-- 'punnetlaw10.LogNil', WHERE WHAT IT READS IS OF BULK AT MOST 1048576: true; the input reads as it did. -/
def logNilUptoRow : OpenClaim := { program := "ytgjpeldgjpgbcaa", sum := "3bf234d27afbdc413673f783a7a3acce8ffe45429884096dec52f12a1214a4bb", func := "punnet/punnetlaw10.LogNil", spec := "logNil", unfollowed := true, recurses := true, apart := false, narrowed := true }
def LogNilUptoSaid : Prop := logNilUptoRow.holds Try.pinned (OpenSpec.upto logNilSpec)

/-- 'punnetlaw11.SlotsFirst', WHERE WHAT IT READS IS OF BULK AT MOST 1048576: true; the input reads as it did. -/
def slotsFirstUptoRow : OpenClaim := { program := "ytgjpeldgjpgbcaa", sum := "3bf234d27afbdc413673f783a7a3acce8ffe45429884096dec52f12a1214a4bb", func := "punnet/punnetlaw11.SlotsFirst", spec := "slotsFirst", apart := false, narrowed := true }
def SlotsFirstUptoSaid : Prop := slotsFirstUptoRow.holds Try.pinned (OpenSpec.upto slotsFirstSpec)

/-- 'punnetlaw11.SlotsReads', WHERE WHAT IT READS IS OF BULK AT MOST 1048576: true; the input reads as it did. -/
def slotsReadsUptoRow : OpenClaim := { program := "ytgjpeldgjpgbcaa", sum := "3bf234d27afbdc413673f783a7a3acce8ffe45429884096dec52f12a1214a4bb", func := "punnet/punnetlaw11.SlotsReads", spec := "slotsReads", apart := false, narrowed := true }
def SlotsReadsUptoSaid : Prop := slotsReadsUptoRow.holds Try.pinned (OpenSpec.upto slotsReadsSpec)

/-- 'punnetlaw11.SlotsAgain', WHERE WHAT IT READS IS OF BULK AT MOST 1048576: true; the input reads as it did. -/
def slotsAgainUptoRow : OpenClaim := { program := "ytgjpeldgjpgbcaa", sum := "3bf234d27afbdc413673f783a7a3acce8ffe45429884096dec52f12a1214a4bb", func := "punnet/punnetlaw11.SlotsAgain", spec := "slotsAgain", apart := false, narrowed := true }
def SlotsAgainUptoSaid : Prop := slotsAgainUptoRow.holds Try.pinned (OpenSpec.upto slotsAgainSpec)

/-- 'punnetlaw11.SlotsNil', WHERE WHAT IT READS IS OF BULK AT MOST 1048576: true; the input reads as it did. -/
def slotsNilUptoRow : OpenClaim := { program := "ytgjpeldgjpgbcaa", sum := "3bf234d27afbdc413673f783a7a3acce8ffe45429884096dec52f12a1214a4bb", func := "punnet/punnetlaw11.SlotsNil", spec := "slotsNil", apart := false, narrowed := true }
def SlotsNilUptoSaid : Prop := slotsNilUptoRow.holds Try.pinned (OpenSpec.upto slotsNilSpec)

/-- 'punnetlaw12.VaultTurns', WHERE WHAT IT READS IS OF BULK AT MOST 1048576: true; the input reads as it did. -/
def vaultTurnsUptoRow : OpenClaim := { program := "ytgjpeldgjpgbcaa", sum := "3bf234d27afbdc413673f783a7a3acce8ffe45429884096dec52f12a1214a4bb", func := "punnet/punnetlaw12.VaultTurns", spec := "vaultTurns", unfollowed := true, recurses := true, apart := false, narrowed := true }
def VaultTurnsUptoSaid : Prop := vaultTurnsUptoRow.holds Try.pinned (OpenSpec.upto vaultTurnsSpec)

/-- 'punnetlaw12.VaultLasts', WHERE WHAT IT READS IS OF BULK AT MOST 1048576: true; the input reads as it did. -/
def vaultLastsUptoRow : OpenClaim := { program := "ytgjpeldgjpgbcaa", sum := "3bf234d27afbdc413673f783a7a3acce8ffe45429884096dec52f12a1214a4bb", func := "punnet/punnetlaw12.VaultLasts", spec := "vaultLasts", unfollowed := true, recurses := true, apart := false, narrowed := true }
def VaultLastsUptoSaid : Prop := vaultLastsUptoRow.holds Try.pinned (OpenSpec.upto vaultLastsSpec)

/-- 'punnetlaw12.VaultNil', WHERE WHAT IT READS IS OF BULK AT MOST 1048576: true; the input reads as it did. -/
def vaultNilUptoRow : OpenClaim := { program := "ytgjpeldgjpgbcaa", sum := "3bf234d27afbdc413673f783a7a3acce8ffe45429884096dec52f12a1214a4bb", func := "punnet/punnetlaw12.VaultNil", spec := "vaultNil", unfollowed := true, recurses := true, apart := false, narrowed := true }
def VaultNilUptoSaid : Prop := vaultNilUptoRow.holds Try.pinned (OpenSpec.upto vaultNilSpec)

end Rows
end Go.Proofs.Ytgjpeldgjpgbcaa
