/- The root schema and the chapter's example of layer 14, walked over abstract states. No conditions. -/
import Derived.Test.YtdgcbhihmnhnaaaSchB
import Derived.Test.YtdgcbhihmnhnaaaOpF
namespace Go.Proofs.Ytdgcbhihmnhnaaa
set_option linter.unusedSimpArgs false
set_option linter.unusedVariables false
set_option maxRecDepth 100000
open Go.RowKit

def rootD : List FldD := [⟨⟨0, [], [99, 111, 117, 112, 111, 110]⟩, 2, [], [], 0⟩, ⟨⟨1, [], [110, 111, 116, 101]⟩, 2, [], [], 0⟩, ⟨⟨1, [], [113, 116, 121]⟩, 1, [], [], 1⟩, ⟨⟨1, [], [115, 105, 122, 101]⟩, 3, [109, 101, 100, 105, 117, 109], [[115, 109, 97, 108, 108], [109, 101, 100, 105, 117, 109], [108, 97, 114, 103, 101]], 0⟩, ⟨⟨1, [], [116, 97, 103, 115]⟩, 4, [], [], 0⟩]
theorem root_right : rightS rootD = true := by decide +kernel
theorem root_c : AC Try.prog 38 [] (fun x => x = .s (.sl (rootD.map FldD.cs))) := by
  refine AC.of' 13 2 Try.func38 rfl ?_; change AW _ _ _ _ [TK.mk 0 .off, TK.mk 0 .off]; refine AW.seq ?_; refine AW.region ?_; refine AL.ra ?_; refine AL.nil ?_; change AW _ _ _ _ _; refine AW.seq ?_; refine AW.region ?_; refine AL.r (rd_build rfl pl_44 ze_44 rfl rfl) ?_; refine AL.r (rd_build rfl pl_47 ze_47 rfl rfl) ?_; refine AL.r (rd_build rfl pl_44 ze_44 rfl rfl) ?_; refine AL.r (rd_build rfl pl_47 ze_47 rfl rfl) ?_; refine AL.r (rd_build rfl pl_44 ze_44 rfl rfl) ?_; refine AL.r (rd_build rfl pl_47 ze_47 rfl rfl) ?_; refine AL.r (rd_build rfl pl_44 ze_44 rfl rfl) ?_; refine AL.op rfl (AOpB.op (bs_set rfl ap_45 ze_9 rfl rfl ?_)); refine AL.n ?_; refine AL.r (rd_build rfl pl_47 ze_47 rfl rfl) ?_; refine AL.r (rd_build rfl pl_44 ze_44 rfl rfl) ?_; refine AL.r (rd_build rfl pl_47 ze_47 rfl rfl) ?_; refine AL.op rfl (AOpB.op (bs_set rfl ap_42 ze_47 rfl rfl ?_)); refine AL.n ?_; refine AL.ra ?_
  refine AL.nil ?_; change AW _ _ _ _ _; refine AW.ret ?_; change ResA _ _ _ _ _; refine res1 rfl (ResV.tmp rfl) rfl ?_; rfl
theorem awake14 : AC Try.prog 37 [] (fun x => x = .s (AB true)) := by
  refine AC.of' 18 0 Try.func37 rfl ?_; change AW _ _ _ _ []; refine AW.seq ?_; refine AW.region ?_; refine AL.ra ?_; refine AL.nil ?_; change AW _ _ _ _ _; refine AW.seq ?_; refine AW.region ?_; refine AL.op rfl (AOpB.op (op_call (root_c) rfl (by kernel_rfl) rfl (none) ?_)); rintro r rfl; refine AL.n ?_; refine AL.ra ?_; refine AL.nil ?_; change AW _ _ _ _ _; refine AW.seq ?_; refine AW.region ?_; refine AL.rm ?_; refine AL.r (rd_len_sl rfl el_42 rfl) ?_; refine AL.r (rd_bin rfl rfl rfl (fun _ => rfl)) ?_; refine AL.rm ?_; refine AL.fk (d := 6) rfl (fun h6 => ?_) (fun h6 => ?_)
  ·refine AL.n ?_; refine AL.ro (rd_move rfl rfl) ?_; refine AL.ro (rd_iaddr_sl rfl el_42 rfl rfl (n := 0) rfl (get_mapA (by decide)) rfl) ?_; refine AL.ro (rd_faddr_ep rfl fo_47_0 rfl) ?_; refine AL.ro (rd_loadN_ep rfl ag_44 rfl (Nat.le_of_ble_eq_true rfl) rfl) ?_; refine AL.ro (rd_build rfl pl_44 ze_44 rfl rfl) ?_; refine AL.ro (rd_eq_Ref rfl rfl rfl) ?_; refine AL.r (rd_pick_t rfl rfl rfl) ?_; refine AL.rm ?_; refine AL.fk (d := 14) rfl (fun h14 => ?_) (fun h14 => ?_)
   ·refine AL.n ?_; refine AL.ro (rd_move rfl rfl) ?_; refine AL.on rfl rfl rfl (AOpB.op (op_call (sright_c rootD) rfl (by kernel_rfl) rfl (none) ?_)); rintro r rfl; refine AL.n ?_; refine AL.r (rd_pick_t rfl rfl rfl) ?_; refine AL.ra ?_; refine AL.nil ?_; change AW _ _ _ _ _; refine AW.ret ?_; change ResA _ _ _ _ _; refine res1 rfl (ResV.tmp rfl) rfl ?_; rw [root_right]
   ·exact absurd (by decide) h14
  ·exact absurd (by decide : (rootD.length : Int) = 5) h6
theorem smallS.filter {l : List FldD} (h : smallS l) (p : FldD → Bool) : smallS (l.filter p) :=
  ⟨Nat.le_trans (List.length_filter_le p l) h.1, fun f hf => h.2 f (List.mem_filter.1 hf).1⟩
theorem rsame14s (l m : List FldD) (h : smallS l) : AC Try.prog 25 [.sl (l.map FldD.cs), .sl (m.map FldD.cs)] (fun x => x = .s (AB (decide (l = m)))) := rsame14_c l m (by have := h.1; omega) (fun f hf => by have := h.2 f hf; omega)
end Go.Proofs.Ytdgcbhihmnhnaaa
