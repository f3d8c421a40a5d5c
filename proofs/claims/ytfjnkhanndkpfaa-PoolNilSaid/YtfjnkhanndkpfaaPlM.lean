/- The law PoolNil, its arguments opened. No conditions. -/
import Derived.Test.YtfjnkhanndkpfaaPlN
import Derived.Test.YtfjnkhanndkpfaaPlO
namespace Go.Proofs.Ytfjnkhanndkpfaa
set_option linter.unusedSimpArgs false
set_option linter.unusedVariables false
open Go.RowKit Go.ChangeShapes Go.WideShapes Go.ChangeAt Go.Deep

theorem walk_PoolNil (w : World) (v0 : Value) (o0 : OpD) (rp0 : RepS AnyB w v0 o0.av) (v1 : Value) (x1 : VecD) (rp1 : RepS AnyB w v1 (vecA x1)) :
    Calls Try.prog 9 #[v0, v1] w fun e w' => e = .returned (.bool true) ∧ Below w.heap.size w w' :=
  (pnil_c o0 x1).law (vs := [v0, v1]) rfl (rep_cons rp0 (rep_cons rp1 rep_nil))
end Go.Proofs.Ytfjnkhanndkpfaa
