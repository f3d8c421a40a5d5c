/-
  No cell of these rows narrows 'for every input' (looked for: loops, veiled, ifaces, maps, wideKeys, modest, calm, conditions, laid).
  DERIVED. THE GIVEN ROWS OF THIS SEAT. 3 by the template 'for every input the law returns true; each argument reads behind the call as it read before'; 0 by the template 'total and deterministic' (their statements: YtlapcfnmmpbeeaaGreatTotals.lean).
  GIVEN WITH THE SEED: the statements are not yours to turn. If you find one false, say at which input.
  Laid BY PROGRAM, IN A SANDBOX (cutbox-rows.mjs): the forced cells as the released guide's own fill.sh prints them over the translation 62715aa2b0aef2ba… (all of the seat's roots in one cut). By AI agents, Wed Nov 11 2026. No macro, syntax, notation, axiom, sorry.
-/
import Derived.Test.YtlapcfnmmpbeeaaGreatChecked
import GoSem.Claim
import GoSem.ClaimJoined
import GoSem.ClaimMapViews
import Derived.JoinedTies
import Derived.KernelRfl
namespace Go.Proofs.YtlapcfnmmpbeeaaGreat
/- THE CELL 'sum', in the pinned program and in every row, IS THE sha256 OF THE DUMP (.gsa) THAT YtlapcfnmmpbeeaaGreatProg.lean LOADS. Nothing in Lean hashes anything: it is a label: what it is worth is what the hold of that sum in a sandbox is worth. -/
noncomputable def Tryz.pinned : Pinned := { name := "ytlapcfnmmpbeeaagreat", sum := "62715aa2b0aef2ba903a9820f3c103a7fbfb12e5251370809b914440262f979b", checked := Tryz.checked }
namespace Rows
def none {H : Type} : Left H := { results := [], args := [] }

/-- 'punnetlaw30.TalkRight': WHATEVER THE INPUT: true; the input reads as it did. -/
def talkRightSpec : ChangeSpec := { name := "talkRight", fn := fun _ => fun
  | [d1, d2] => { results := [.lit (.bool true)], args := [d1, d2] }
  | _ => none }
def talkRightRow : OpenClaim := { program := "ytlapcfnmmpbeeaagreat", sum := "62715aa2b0aef2ba903a9820f3c103a7fbfb12e5251370809b914440262f979b", func := "punnet/punnetlaw30.TalkRight", spec := "talkRight", unfollowed := true, recurses := true, apart := false }
def TalkRightSaid : Prop := talkRightRow.holds Tryz.pinned (OpenSpec.ofChange talkRightSpec)

/-- ITS FALSE NEIGHBOUR: 'it returns false'. Refute it at one input. -/
def talkRightWrong : ChangeSpec := { name := "talkRight", fn := fun _ => fun
  | [d1, d2] => { results := [.lit (.bool false)], args := [d1, d2] }
  | _ => none }
def TalkRightWrongFalsely : Prop := talkRightRow.holds Tryz.pinned (OpenSpec.ofChange talkRightWrong)

/-- 'punnetlaw30.TalkPacks': WHATEVER THE INPUT: true; the input reads as it did. -/
def talkPacksSpec : ChangeSpec := { name := "talkPacks", fn := fun _ => fun
  | [d1, d2, d3] => { results := [.lit (.bool true)], args := [d1, d2, d3] }
  | _ => none }
def talkPacksRow : OpenClaim := { program := "ytlapcfnmmpbeeaagreat", sum := "62715aa2b0aef2ba903a9820f3c103a7fbfb12e5251370809b914440262f979b", func := "punnet/punnetlaw30.TalkPacks", spec := "talkPacks", unfollowed := true, recurses := true, apart := false }
def TalkPacksSaid : Prop := talkPacksRow.holds Tryz.pinned (OpenSpec.ofChange talkPacksSpec)

/-- ITS FALSE NEIGHBOUR: 'it returns false'. Refute it at one input. -/
def talkPacksWrong : ChangeSpec := { name := "talkPacks", fn := fun _ => fun
  | [d1, d2, d3] => { results := [.lit (.bool false)], args := [d1, d2, d3] }
  | _ => none }
def TalkPacksWrongFalsely : Prop := talkPacksRow.holds Tryz.pinned (OpenSpec.ofChange talkPacksWrong)

/-- 'punnetlaw30.TalkOpens': WHATEVER THE INPUT: true; the input reads as it did. -/
def talkOpensSpec : ChangeSpec := { name := "talkOpens", fn := fun _ => fun
  | [d1, d2] => { results := [.lit (.bool true)], args := [d1, d2] }
  | _ => none }
def talkOpensRow : OpenClaim := { program := "ytlapcfnmmpbeeaagreat", sum := "62715aa2b0aef2ba903a9820f3c103a7fbfb12e5251370809b914440262f979b", func := "punnet/punnetlaw30.TalkOpens", spec := "talkOpens", unfollowed := true, recurses := true, apart := false }
def TalkOpensSaid : Prop := talkOpensRow.holds Tryz.pinned (OpenSpec.ofChange talkOpensSpec)

/-- ITS FALSE NEIGHBOUR: 'it returns false'. Refute it at one input. -/
def talkOpensWrong : ChangeSpec := { name := "talkOpens", fn := fun _ => fun
  | [d1, d2] => { results := [.lit (.bool false)], args := [d1, d2] }
  | _ => none }
def TalkOpensWrongFalsely : Prop := talkOpensRow.holds Tryz.pinned (OpenSpec.ofChange talkOpensWrong)

/- THE SECOND FORM. 'bulk': how many values and letters a reading holds, each counted each time it is reached (what is shared counts as often as it is met; a slice's spare places count too). A statement '..UptoSaid' is the law's where the arguments, and the package variables that the reading takes, are together of bulk at most 1048576: NARROWER than '..Said'. Prove '..Said' where nothing that the law and all that it calls make is longer than what came in: it says more and counts as full. Else prove '..UptoSaid'. A law counts once. -/
mutual
def uptoBulk {H : Type} : DataW H → Nat
  | .lit (.string bytes) => bytes.length + 1
  | .lit _ => 1
  | .nil => 1
  | .ptr d => uptoBulk d + 1
  | .slice elems spare => uptoBulkAll elems + uptoBulkAll spare + 1
  | .agg parts => uptoBulkAll parts + 1
  | .iface _ d => uptoBulk d + 1
  | .map entries => uptoBulkEntries entries + 1
  | .held _ => 1
def uptoBulkAll {H : Type} : List (DataW H) → Nat
  | [] => 0
  | d :: r => uptoBulk d + uptoBulkAll r
def uptoBulkEntries {H : Type} : List (Lit × DataW H) → Nat
  | [] => 0
  | x :: r => uptoBulkEntry x + uptoBulkEntries r
def uptoBulkEntry {H : Type} : Lit × DataW H → Nat
  | (.string bytes, d) => bytes.length + uptoBulk d + 1
  | (_, d) => uptoBulk d + 1
 end
def uptoSmall : (H : Type) → List (DataW H) → Bool := fun _ ds => decide (uptoBulkAll ds ≤ 1048576)
def OpenSpec.upto (s : _root_.Go.ChangeSpec) : _root_.Go.OpenSpec := { _root_.Go.OpenSpec.ofChange s with cond := some uptoSmall }

/-- 'punnetlaw30.TalkRight', WHERE WHAT IT READS IS OF BULK AT MOST 1048576: true; the input reads as it did. -/
def talkRightUptoRow : OpenClaim := { program := "ytlapcfnmmpbeeaagreat", sum := "62715aa2b0aef2ba903a9820f3c103a7fbfb12e5251370809b914440262f979b", func := "punnet/punnetlaw30.TalkRight", spec := "talkRight", unfollowed := true, recurses := true, apart := false, narrowed := true }
def TalkRightUptoSaid : Prop := talkRightUptoRow.holds Tryz.pinned (OpenSpec.upto talkRightSpec)

/-- 'punnetlaw30.TalkPacks', WHERE WHAT IT READS IS OF BULK AT MOST 1048576: true; the input reads as it did. -/
def talkPacksUptoRow : OpenClaim := { program := "ytlapcfnmmpbeeaagreat", sum := "62715aa2b0aef2ba903a9820f3c103a7fbfb12e5251370809b914440262f979b", func := "punnet/punnetlaw30.TalkPacks", spec := "talkPacks", unfollowed := true, recurses := true, apart := false, narrowed := true }
def TalkPacksUptoSaid : Prop := talkPacksUptoRow.holds Tryz.pinned (OpenSpec.upto talkPacksSpec)

/-- 'punnetlaw30.TalkOpens', WHERE WHAT IT READS IS OF BULK AT MOST 1048576: true; the input reads as it did. -/
def talkOpensUptoRow : OpenClaim := { program := "ytlapcfnmmpbeeaagreat", sum := "62715aa2b0aef2ba903a9820f3c103a7fbfb12e5251370809b914440262f979b", func := "punnet/punnetlaw30.TalkOpens", spec := "talkOpens", unfollowed := true, recurses := true, apart := false, narrowed := true }
def TalkOpensUptoSaid : Prop := talkOpensUptoRow.holds Tryz.pinned (OpenSpec.upto talkOpensSpec)

end Rows
end Go.Proofs.YtlapcfnmmpbeeaaGreat
