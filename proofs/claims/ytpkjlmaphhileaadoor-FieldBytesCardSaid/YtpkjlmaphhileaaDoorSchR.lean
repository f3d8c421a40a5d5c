/- The root schema and the chapter's example of layer 14, walked over abstract states. No conditions. -/
import Derived.Test.YtpkjlmaphhileaaDoorSchB
import Derived.Test.YtpkjlmaphhileaaDoorOpF
namespace Go.Proofs.YtpkjlmaphhileaaDoor
set_option linter.unusedSimpArgs false
set_option linter.unusedVariables false
open Go.RowKit

def rootD : List FldD := [⟨⟨0, [], [99, 111, 117, 112, 111, 110]⟩, 2, [], [], 0⟩, ⟨⟨1, [], [110, 111, 116, 101]⟩, 2, [], [], 0⟩, ⟨⟨1, [], [113, 116, 121]⟩, 1, [], [], 1⟩, ⟨⟨1, [], [115, 105, 122, 101]⟩, 3, [109, 101, 100, 105, 117, 109], [[115, 109, 97, 108, 108], [109, 101, 100, 105, 117, 109], [108, 97, 114, 103, 101]], 0⟩, ⟨⟨1, [], [116, 97, 103, 115]⟩, 4, [], [], 0⟩]
theorem root_right : rightS rootD = true := by decide +kernel
theorem smallS.filter {l : List FldD} (h : smallS l) (p : FldD → Bool) : smallS (l.filter p) :=
  ⟨Nat.le_trans (List.length_filter_le p l) h.1, fun f hf => h.2 f (List.mem_filter.1 hf).1⟩
end Go.Proofs.YtpkjlmaphhileaaDoor
