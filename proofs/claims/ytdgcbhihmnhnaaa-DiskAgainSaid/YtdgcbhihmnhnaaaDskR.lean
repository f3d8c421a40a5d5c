/- The law DiskLasts, walked over abstract states. -/
import Derived.Test.YtdgcbhihmnhnaaaDskQ
namespace Go.Proofs.Ytdgcbhihmnhnaaa
set_option linter.unusedSimpArgs false
set_option linter.unusedVariables false
open Go.RowKit

theorem calm_sync_c {k : Nat} {d : DiskD} (h : Calm k d) (hk : k ≤ 1000000) (G : Nat) : ACo Try.prog 14 [.bx 0 G 0] [⟨G, .obj (DiskP d)⟩] (fun y os' => y = .sc (.int .i64 0) ∧ os' = [⟨G, .obj (DiskP (syncD d))⟩]) := by
  have := ok_sync h.ok hk G
  rwa [calm_syncR h] at this
theorem pre_take {a b : List UInt8} (h : a <+: b) : b.take a.length = a ∧ a.length ≤ b.length := ⟨(List.prefix_iff_eq_take.1 h).symm, h.length_le⟩
end Go.Proofs.Ytdgcbhihmnhnaaa
