/- The chapter's example of a pool, and a pool that is not there, walked over abstract states. No conditions. -/
import Derived.Test.YtfjnkhanndkpfaaPlE
import Derived.Test.YtfjnkhanndkpfaaPlR
import Derived.Test.YtfjnkhanndkpfaaPlV
namespace Go.Proofs.Ytfjnkhanndkpfaa
set_option linter.unusedSimpArgs false
set_option linter.unusedVariables false
set_option maxRecDepth 100000
set_option maxRecDepth 100000
open Go.RowKit

def clr (n : Int) : OpD := ⟨⟨1, n⟩, ⟨0, 0⟩, 1, [97], 5, [], ⟨0, [], []⟩, 0, false, [], []⟩
theorem clear_c (n : Int) : AC Try.prog 80 [AI n] (fun r => r = .s (.ag [AI 1, AI n, AI 0, AI 0, AI 1, AS [97], AI 5, AS [], AI 0, AS [], AS [], AI 0, AB false, AS [], .sl []])) := by
  refine AC.of' 5 1 Try.func80 rfl ?_
  change AW _ _ _ _ [TK.mk 0 .off]
  refine AW.seq ?_
  refine AW.region ?_
  refine AL.op rfl (AOpB.op (op_alloc 0 rfl ze_47 rfl ?_))
  refine AL.n ?_
  refine AL.nil ?_
  change AW _ _ _ _ _
  refine AW.seq ?_
  refine AW.region ?_
  refine AL.rm ?_
  refine AL.r (rd_build rfl pl_44 ze_44 rfl rfl) ?_
  refine AL.r (rd_build rfl pl_47 ze_47 rfl rfl) ?_
  refine AL.op rfl (op_store_ rfl rfl rfl rfl rfl sz_47 ?_)
  refine AL.b ?_
  refine AL.nil ?_
  change AW _ _ _ _ _
  refine AW.ret ?_
  change ResA _ _ _ _ _
  refine res1 rfl (ResV.cells rfl rfl ag_47 (Nat.le_of_ble_eq_true rfl) rfl) rfl ?_
  rfl
def p1 : PoolD := putP newP (clr 1)
def p2 : PoolD := putP p1 (clr 3)
def p3 : PoolD := putP p2 (clr 2)
def p4 : PoolD := putP p3 (clr 3)
theorem ok1P : OkP p1 := okP_new.put _
theorem ok2P : OkP p2 := ok1P.put _
theorem ok3P : OkP p3 := ok2P.put _
theorem ok4P : OkP p4 := ok3P.put _
theorem aw1 (G : Nat) : ACo Try.prog 27 [.bx 0 G 0, .ag [AI 1, AI 1, AI 0, AI 0, AI 1, AS [97], AI 5, AS [], AI 0, AS [], AS [], AI 0, AB false, AS [], .sl []]] [⟨G, .obj (PoolP newP)⟩] (fun y os' => y = AI 0 ∧ os' = [⟨G, .obj (PoolP p1)⟩]) := by
  have h := op_put okP_new G (clr 1)
  rwa [show putC newP (clr 1) = 0 by decide +kernel] at h
theorem aw2 (G : Nat) : ACo Try.prog 27 [.bx 0 G 0, .ag [AI 1, AI 3, AI 0, AI 0, AI 1, AS [97], AI 5, AS [], AI 0, AS [], AS [], AI 0, AB false, AS [], .sl []]] [⟨G, .obj (PoolP p1)⟩] (fun y os' => y = AI 17 ∧ os' = [⟨G, .obj (PoolP p2)⟩]) := by
  have h := op_put ok1P G (clr 3)
  rwa [show putC p1 (clr 3) = 17 by decide +kernel] at h
theorem aw3 (G : Nat) : ACo Try.prog 27 [.bx 0 G 0, .ag [AI 1, AI 2, AI 0, AI 0, AI 1, AS [97], AI 5, AS [], AI 0, AS [], AS [], AI 0, AB false, AS [], .sl []]] [⟨G, .obj (PoolP p2)⟩] (fun y os' => y = AI 0 ∧ os' = [⟨G, .obj (PoolP p3)⟩]) := by
  have h := op_put ok2P G (clr 2)
  rwa [show putC p2 (clr 2) = 0 by decide +kernel] at h
theorem aw4 (G : Nat) : ACo Try.prog 27 [.bx 0 G 0, .ag [AI 1, AI 3, AI 0, AI 0, AI 1, AS [97], AI 5, AS [], AI 0, AS [], AS [], AI 0, AB false, AS [], .sl []]] [⟨G, .obj (PoolP p3)⟩] (fun y os' => y = AI 0 ∧ os' = [⟨G, .obj (PoolP p4)⟩]) := by
  have h := op_put ok3P G (clr 3)
  rwa [show putC p3 (clr 3) = 0 by decide +kernel] at h
theorem aw5 (G : Nat) : ACo Try.prog 28 [.bx 0 G 0] [⟨G, .obj (PoolP p4)⟩] (fun y os' => y = AI 3 ∧ os' = [⟨G, .obj (PoolP p4)⟩]) := by
  have h := op_len ok4P G
  rwa [show totP p4 = 3 by decide +kernel] at h
set_option maxHeartbeats 1000000 in
theorem awake26 : AC Try.prog 25 [] (fun x => x = .s (AB true)) := by
  refine AC.of' 30 1 Try.func25 rfl ?_
  change AW _ _ _ _ [TK.mk 0 .off]
  refine AW.seq ?_
  refine AW.region ?_
  refine AL.ra ?_
  refine AL.nil ?_
  change AW _ _ _ _ _
  refine AW.seq ?_
  refine AW.region ?_
  refine AL.op rfl (calloS (op_new 0) [0] ?_)
  rintro y os' ⟨rfl, rfl⟩
  refine AL.noS ?_
  refine AL.ra ?_
  refine AL.nil ?_
  change AW _ _ _ _ _
  refine AW.seq ?_
  refine AW.region ?_
  refine AL.rm ?_
  refine AL.op rfl (AOpB.op (op_call (clear_c 1) rfl (by kernel_rfl) rfl (none) ?_))
  rintro r rfl
  refine AL.no ?_
  refine AL.op rfl (calloS (aw1 1) [0] ?_)
  rintro y os' ⟨rfl, rfl⟩
  refine AL.noS ?_
  refine AL.r (rd_bin rfl rfl rfl (fun _ => rfl)) ?_
  refine AL.rm ?_
  refine AL.ro (rd_move rfl rfl) ?_
  refine AL.on rfl rfl rfl (AOpB.op (op_call (clear_c 3) rfl (by kernel_rfl) rfl (none) ?_))
  rintro r rfl
  refine AL.no ?_
  refine AL.on rfl rfl rfl (calloS (aw2 1) [0] ?_)
  rintro y os' ⟨rfl, rfl⟩
  refine AL.noS ?_
  refine AL.ro (rd_bin rfl rfl rfl (fun _ => rfl)) ?_
  refine AL.r (rd_pick_t rfl rfl rfl) ?_
  refine AL.rm ?_
  refine AL.ro (rd_move rfl rfl) ?_
  refine AL.on rfl rfl rfl (AOpB.op (op_call (clear_c 2) rfl (by kernel_rfl) rfl (none) ?_))
  rintro r rfl
  refine AL.no ?_
  refine AL.on rfl rfl rfl (calloS (aw3 1) [0] ?_)
  rintro y os' ⟨rfl, rfl⟩
  refine AL.noS ?_
  refine AL.ro (rd_bin rfl rfl rfl (fun _ => rfl)) ?_
  refine AL.r (rd_pick_t rfl rfl rfl) ?_
  refine AL.rm ?_
  refine AL.ro (rd_move rfl rfl) ?_
  refine AL.on rfl rfl rfl (AOpB.op (op_call (clear_c 3) rfl (by kernel_rfl) rfl (none) ?_))
  rintro r rfl
  refine AL.no ?_
  refine AL.on rfl rfl rfl (calloS (aw4 1) [0] ?_)
  rintro y os' ⟨rfl, rfl⟩
  refine AL.noS ?_
  refine AL.ro (rd_bin rfl rfl rfl (fun _ => rfl)) ?_
  refine AL.r (rd_pick_t rfl rfl rfl) ?_
  refine AL.rm ?_
  refine AL.ro (rd_move rfl rfl) ?_
  refine AL.on rfl rfl rfl (calloS (aw5 1) [0] ?_)
  rintro y os' ⟨rfl, rfl⟩
  refine AL.noS ?_
  refine AL.ro (rd_bin rfl rfl rfl (fun _ => rfl)) ?_
  refine AL.r (rd_pick_t rfl rfl rfl) ?_
  refine AL.ra ?_
  refine AL.nil ?_
  change AW _ _ _ _ _
  refine AW.ret ?_
  change ResA _ _ _ _ _
  refine res1 rfl (ResV.tmp rfl) rfl ?_
  rfl
theorem nfind_c (t : TagD) : AC Try.prog 37 [.sc (.pointer none), t.av] (fun r => r = .s (.tu [.ag [AI zeroO.id.rep, AI zeroO.id.n, AI zeroO.schema.rep, AI zeroO.schema.n, AI zeroO.time, AS zeroO.cart, AI zeroO.kind, AS zeroO.item, AI zeroO.at_.scope, AS zeroO.at_.group, AS zeroO.at_.name, AI zeroO.delta, AB zeroO.has, AS zeroO.text, .sl (zeroO.drops.map TagD.cs)], AI 1])) := by
  refine AC.of' 27 2 Try.func37 rfl ?_
  change AW _ _ _ _ [TK.mk 0 .off, TK.mk 0 .off]
  refine AW.seq ?_
  refine AW.region ?_
  refine AL.op rfl (AOpB.op (op_box 0 rfl rfl rfl rfl rfl ?_))
  refine AL.n ?_
  refine AL.op rfl (AOpB.op (op_alloc 1 rfl ze_47 rfl ?_))
  refine AL.n ?_
  refine AL.ra ?_
  refine AL.nil ?_
  change AW _ _ _ _ _
  refine AW.seq ?_
  refine AW.seq ?_
  refine AW.region ?_
  refine AL.rm ?_
  refine AL.r (rd_peq_nil rfl pt_41 rfl rfl) ?_
  refine AL.nil ?_
  change AW _ _ _ _ _
  refine AW.cond_t rfl ?_
  refine AW.seq ?_
  refine AW.region ?_
  refine AL.r (rd_build rfl pl_47 ze_47 rfl rfl) ?_
  refine AL.op rfl (op_store_ rfl rfl rfl rfl rfl sz_47 ?_)
  refine AL.b ?_
  refine AL.ra ?_
  refine AL.nil ?_
  change AW _ _ _ _ _
  refine AW.ret ?_
  change ResA _ _ _ _ _
  refine res2 rfl (ResV.cells rfl rfl ag_47 (Nat.le_of_ble_eq_true rfl) rfl) rfl (ResV.tmp rfl) rfl ?_
  rfl
theorem nput_c (o : OpD) : AC Try.prog 27 [.sc (.pointer none), o.av] (fun r => r = .s (AI 1)) := by
  change AC _ _ [.sc (.pointer none), .ag [AI o.id.rep, AI o.id.n, AI o.schema.rep, AI o.schema.n, AI o.time, AS o.cart, AI o.kind, AS o.item, AI o.at_.scope, AS o.at_.group, AS o.at_.name, AI o.delta, AB o.has, AS o.text, .sl (o.drops.map TagD.cs)]] _
  refine AC.of' 57 4 Try.func27 rfl ?_
  change AW _ _ _ _ [TK.mk 0 .off, TK.mk 0 .off, TK.mk 0 .off, TK.mk 0 .off]
  refine AW.seq ?_
  refine AW.region ?_
  refine AL.op rfl (AOpB.op (op_box 0 rfl rfl rfl rfl rfl ?_))
  refine AL.n ?_
  refine AL.ra ?_
  refine AL.nil ?_
  change AW _ _ _ _ _
  refine AW.seq ?_
  refine AW.seq ?_
  refine AW.region ?_
  refine AL.rm ?_
  refine AL.r (rd_peq_nil rfl pt_41 rfl rfl) ?_
  refine AL.nil ?_
  change AW _ _ _ _ _
  refine AW.cond_t rfl ?_
  refine AW.seq ?_
  refine AW.region ?_
  refine AL.ra ?_
  refine AL.nil ?_
  change AW _ _ _ _ _
  refine AW.ret ?_
  change ResA _ _ _ _ _
  refine res1 rfl (ResV.tmp rfl) rfl ?_
  rfl
theorem nhave_c : AC Try.prog 32 [.sc (.pointer none)] (fun r => r = .s (vecA zeroV)) := by
  refine AC.of' 22 2 Try.func32 rfl ?_
  change AW _ _ _ _ [TK.mk 0 .off, TK.mk 0 .off]
  refine AW.seq ?_
  refine AW.region ?_
  refine AL.op rfl (AOpB.op (op_alloc 0 rfl ze_58 rfl ?_))
  refine AL.n ?_
  refine AL.nil ?_
  change AW _ _ _ _ _
  refine AW.seq ?_
  refine AW.region ?_
  refine AL.op rfl (AOpB.op (op_alloc 1 rfl ze_58 rfl ?_))
  refine AL.n ?_
  refine AL.nil ?_
  change AW _ _ _ _ _
  refine AW.seq ?_
  refine AW.seq ?_
  refine AW.region ?_
  refine AL.rm ?_
  refine AL.r (rd_peq_nil rfl pt_41 rfl rfl) ?_
  refine AL.nil ?_
  change AW _ _ _ _ _
  refine AW.cond_t rfl ?_
  refine AW.seq ?_
  refine AW.region ?_
  refine AL.r (rd_loadN_bx rfl ag_58 rfl rfl (Nat.le_of_ble_eq_true rfl) rfl) ?_
  refine AL.op rfl (op_store_ rfl rfl rfl rfl rfl sz_58 ?_)
  refine AL.n ?_
  refine AL.nil ?_
  change AW _ _ _ _ _
  refine AW.ret ?_
  change ResA _ _ _ _ _
  refine res1 rfl (ResV.cells rfl rfl ag_58 (Nat.le_of_ble_eq_true rfl) rfl) rfl ?_
  rfl
theorem nlen_c : AC Try.prog 28 [.sc (.pointer none)] (fun r => r = .s (AI 0)) := by
  refine AC.of' 15 0 Try.func28 rfl ?_
  change AW _ _ _ _ []
  refine AW.seq ?_
  refine AW.region ?_
  refine AL.ra ?_
  refine AL.nil ?_
  change AW _ _ _ _ _
  refine AW.seq ?_
  refine AW.region ?_
  refine AL.ra ?_
  refine AL.nil ?_
  change AW _ _ _ _ _
  refine AW.seq ?_
  refine AW.seq ?_
  refine AW.region ?_
  refine AL.rm ?_
  refine AL.op rfl (AOpB.op (op_call (nhave_c) rfl (by kernel_rfl) rfl (none) ?_))
  rintro r rfl
  refine AL.n ?_
  refine AL.rm ?_
  refine AL.nil ?_
  change AW _ _ _ _ _
  refine AW.block ?_
  refine AW.unroll 7 ?_
  change AW _ _ _ _ _
  refine AW.seq ?_
  refine AW.region ?_
  refine AL.r (rd_bin rfl rfl rfl (fun _ => rfl)) ?_
  refine AL.nil ?_
  change AW _ _ _ _ _
  refine AW.seq ?_
  refine AW.cond_t rfl ?_
  refine AW.skip ?_
  change AW _ _ _ _ _
  refine AW.seq ?_
  refine AW.block ?_
  refine AW.seq ?_
  refine AW.region ?_
  refine AL.r (rd_index_ag (i := 0) rfl ar_58 ag_3 rfl rfl (by first | rfl | omega) (by decide) rfl) ?_
  refine AL.ra ?_
  refine AL.nil ?_
  change AW _ _ _ _ _
  refine AW.region ?_
  refine AL.rm ?_
  refine AL.rm ?_
  refine AL.r (rd_arith_add rfl rfl rfl (by first | exact IntWalk.i64_in _ (by omega) | rfl)) ?_
  refine AL.ra ?_
  refine AL.nil ?_
  change AW _ _ _ _ _
  refine AW.region ?_
  refine AL.r (rd_arith_add rfl rfl rfl (rfl : _ = (1 : Int))) ?_
  refine AL.rm ?_
  refine AL.nil ?_
  change AW _ _ _ _ _
  refine AW.seq ?_
  refine AW.region ?_
  refine AL.r (rd_bin rfl rfl rfl (fun _ => rfl)) ?_
  refine AL.nil ?_
  change AW _ _ _ _ _
  refine AW.seq ?_
  refine AW.cond_t rfl ?_
  refine AW.skip ?_
  change AW _ _ _ _ _
  refine AW.seq ?_
  refine AW.block ?_
  refine AW.seq ?_
  refine AW.region ?_
  refine AL.r (rd_index_ag (i := 1) rfl ar_58 ag_3 rfl rfl (by first | rfl | omega) (by decide) rfl) ?_
  refine AL.ra ?_
  refine AL.nil ?_
  change AW _ _ _ _ _
  refine AW.region ?_
  refine AL.rm ?_
  refine AL.rm ?_
  refine AL.r (rd_arith_add rfl rfl rfl (by first | exact IntWalk.i64_in _ (by omega) | rfl)) ?_
  refine AL.ra ?_
  refine AL.nil ?_
  change AW _ _ _ _ _
  refine AW.region ?_
  refine AL.r (rd_arith_add rfl rfl rfl (rfl : _ = (2 : Int))) ?_
  refine AL.rm ?_
  refine AL.nil ?_
  change AW _ _ _ _ _
  refine AW.seq ?_
  refine AW.region ?_
  refine AL.r (rd_bin rfl rfl rfl (fun _ => rfl)) ?_
  refine AL.nil ?_
  change AW _ _ _ _ _
  refine AW.seq ?_
  refine AW.cond_t rfl ?_
  refine AW.skip ?_
  change AW _ _ _ _ _
  refine AW.seq ?_
  refine AW.block ?_
  refine AW.seq ?_
  refine AW.region ?_
  refine AL.r (rd_index_ag (i := 2) rfl ar_58 ag_3 rfl rfl (by first | rfl | omega) (by decide) rfl) ?_
  refine AL.ra ?_
  refine AL.nil ?_
  change AW _ _ _ _ _
  refine AW.region ?_
  refine AL.rm ?_
  refine AL.rm ?_
  refine AL.r (rd_arith_add rfl rfl rfl (by first | exact IntWalk.i64_in _ (by omega) | rfl)) ?_
  refine AL.ra ?_
  refine AL.nil ?_
  change AW _ _ _ _ _
  refine AW.region ?_
  refine AL.r (rd_arith_add rfl rfl rfl (rfl : _ = (3 : Int))) ?_
  refine AL.rm ?_
  refine AL.nil ?_
  change AW _ _ _ _ _
  refine AW.seq ?_
  refine AW.region ?_
  refine AL.r (rd_bin rfl rfl rfl (fun _ => rfl)) ?_
  refine AL.nil ?_
  change AW _ _ _ _ _
  refine AW.seq ?_
  refine AW.cond_t rfl ?_
  refine AW.skip ?_
  change AW _ _ _ _ _
  refine AW.seq ?_
  refine AW.block ?_
  refine AW.seq ?_
  refine AW.region ?_
  refine AL.r (rd_index_ag (i := 3) rfl ar_58 ag_3 rfl rfl (by first | rfl | omega) (by decide) rfl) ?_
  refine AL.ra ?_
  refine AL.nil ?_
  change AW _ _ _ _ _
  refine AW.region ?_
  refine AL.rm ?_
  refine AL.rm ?_
  refine AL.r (rd_arith_add rfl rfl rfl (by first | exact IntWalk.i64_in _ (by omega) | rfl)) ?_
  refine AL.ra ?_
  refine AL.nil ?_
  change AW _ _ _ _ _
  refine AW.region ?_
  refine AL.r (rd_arith_add rfl rfl rfl (rfl : _ = (4 : Int))) ?_
  refine AL.rm ?_
  refine AL.nil ?_
  change AW _ _ _ _ _
  refine AW.seq ?_
  refine AW.region ?_
  refine AL.r (rd_bin rfl rfl rfl (fun _ => rfl)) ?_
  refine AL.nil ?_
  change AW _ _ _ _ _
  refine AW.seq ?_
  refine AW.cond_t rfl ?_
  refine AW.skip ?_
  change AW _ _ _ _ _
  refine AW.seq ?_
  refine AW.block ?_
  refine AW.seq ?_
  refine AW.region ?_
  refine AL.r (rd_index_ag (i := 4) rfl ar_58 ag_3 rfl rfl (by first | rfl | omega) (by decide) rfl) ?_
  refine AL.ra ?_
  refine AL.nil ?_
  change AW _ _ _ _ _
  refine AW.region ?_
  refine AL.rm ?_
  refine AL.rm ?_
  refine AL.r (rd_arith_add rfl rfl rfl (by first | exact IntWalk.i64_in _ (by omega) | rfl)) ?_
  refine AL.ra ?_
  refine AL.nil ?_
  change AW _ _ _ _ _
  refine AW.region ?_
  refine AL.r (rd_arith_add rfl rfl rfl (rfl : _ = (5 : Int))) ?_
  refine AL.rm ?_
  refine AL.nil ?_
  change AW _ _ _ _ _
  refine AW.seq ?_
  refine AW.region ?_
  refine AL.r (rd_bin rfl rfl rfl (fun _ => rfl)) ?_
  refine AL.nil ?_
  change AW _ _ _ _ _
  refine AW.seq ?_
  refine AW.cond_t rfl ?_
  refine AW.skip ?_
  change AW _ _ _ _ _
  refine AW.seq ?_
  refine AW.block ?_
  refine AW.seq ?_
  refine AW.region ?_
  refine AL.r (rd_index_ag (i := 5) rfl ar_58 ag_3 rfl rfl (by first | rfl | omega) (by decide) rfl) ?_
  refine AL.ra ?_
  refine AL.nil ?_
  change AW _ _ _ _ _
  refine AW.region ?_
  refine AL.rm ?_
  refine AL.rm ?_
  refine AL.r (rd_arith_add rfl rfl rfl (by first | exact IntWalk.i64_in _ (by omega) | rfl)) ?_
  refine AL.ra ?_
  refine AL.nil ?_
  change AW _ _ _ _ _
  refine AW.region ?_
  refine AL.r (rd_arith_add rfl rfl rfl (rfl : _ = (6 : Int))) ?_
  refine AL.rm ?_
  refine AL.nil ?_
  change AW _ _ _ _ _
  refine AW.seq ?_
  refine AW.region ?_
  refine AL.r (rd_bin rfl rfl rfl (fun _ => rfl)) ?_
  refine AL.nil ?_
  change AW _ _ _ _ _
  refine AW.seq ?_
  refine AW.cond_f rfl ?_
  refine AW.exit ?_
  change AW _ _ _ _ _
  refine AW.seq ?_
  refine AW.region ?_
  refine AL.rm ?_
  refine AL.ra ?_
  refine AL.nil ?_
  change AW _ _ _ _ _
  refine AW.ret ?_
  change ResA _ _ _ _ _
  refine res1 rfl (ResV.tmp rfl) rfl ?_
  rfl
theorem nsince_c (v : VecD) (n : Int) : AC Try.prog 36 [.sc (.pointer none), vecA v, AI n] (fun r => r = .s (.sl [])) := by
  refine AC.of' 42 4 Try.func36 rfl ?_
  change AW _ _ _ _ [TK.mk 0 .off, TK.mk 0 .off, TK.mk 0 .off, TK.mk 0 .off]
  refine AW.seq ?_
  refine AW.region ?_
  refine AL.op rfl (AOpB.op (op_box 0 rfl rfl rfl rfl rfl ?_))
  refine AL.n ?_
  refine AL.ra ?_
  refine AL.nil ?_
  change AW _ _ _ _ _
  refine AW.seq ?_
  refine AW.seq ?_
  refine AW.region ?_
  refine AL.rm ?_
  refine AL.r (rd_peq_nil rfl pt_41 rfl rfl) ?_
  refine AL.nil ?_
  change AW _ _ _ _ _
  refine AW.cond_t rfl ?_
  refine AW.seq ?_
  refine AW.region ?_
  refine AL.ra ?_
  refine AL.nil ?_
  change AW _ _ _ _ _
  refine AW.ret ?_
  change ResA _ _ _ _ _
  refine res1 rfl (ResV.tmp rfl) rfl ?_
  rfl
theorem nops_c : AC Try.prog 29 [.sc (.pointer none)] (fun r => r = .s (.sl [])) := by
  refine AC.of' 5 0 Try.func29 rfl ?_
  change AW _ _ _ _ []
  refine AW.seq ?_
  refine AW.region ?_
  refine AL.ra ?_
  refine AL.nil ?_
  change AW _ _ _ _ _
  refine AW.seq ?_
  refine AW.region ?_
  refine AL.rm ?_
  refine AL.r (rd_buildA rfl ar_58 ze_58 rfl rfl) ?_
  refine AL.op rfl (AOpB.op (op_call (nsince_c zeroV 400) rfl (by kernel_rfl) rfl (none) ?_))
  rintro r rfl
  refine AL.n ?_
  refine AL.ra ?_
  refine AL.nil ?_
  change AW _ _ _ _ _
  refine AW.ret ?_
  change ResA _ _ _ _ _
  refine res1 rfl (ResV.tmp rfl) rfl ?_
  rfl
theorem nclock_c : AC Try.prog 43 [.sc (.pointer none)] (fun r => r = .s (AI 0)) := by
  refine AC.of' 30 1 Try.func43 rfl ?_
  change AW _ _ _ _ [TK.mk 0 .off]
  refine AW.seq ?_
  refine AW.region ?_
  refine AL.ra ?_
  refine AL.nil ?_
  change AW _ _ _ _ _
  refine AW.seq ?_
  refine AW.region ?_
  refine AL.ra ?_
  refine AL.nil ?_
  change AW _ _ _ _ _
  refine AW.seq ?_
  refine AW.seq ?_
  refine AW.region ?_
  refine AL.rm ?_
  refine AL.r (rd_peq_nil rfl pt_41 rfl rfl) ?_
  refine AL.nil ?_
  change AW _ _ _ _ _
  refine AW.cond_t rfl ?_
  refine AW.seq ?_
  refine AW.region ?_
  refine AL.rm ?_
  refine AL.ra ?_
  refine AL.nil ?_
  change AW _ _ _ _ _
  refine AW.ret ?_
  change ResA _ _ _ _ _
  refine res1 rfl (ResV.tmp rfl) rfl ?_
  rfl
theorem ncopy_c : AC Try.prog 40 [.sc (.pointer none)] (fun r => r = .s (.sc (.pointer none))) := by
  refine AC.of' 25 1 Try.func40 rfl ?_
  change AW _ _ _ _ [TK.mk 0 .off]
  refine AW.seq ?_
  refine AW.region ?_
  refine AL.ra ?_
  refine AL.nil ?_
  change AW _ _ _ _ _
  refine AW.seq ?_
  refine AW.seq ?_
  refine AW.region ?_
  refine AL.rm ?_
  refine AL.r (rd_peq_nil rfl pt_41 rfl rfl) ?_
  refine AL.nil ?_
  change AW _ _ _ _ _
  refine AW.cond_t rfl ?_
  refine AW.seq ?_
  refine AW.region ?_
  refine AL.ra ?_
  refine AL.nil ?_
  change AW _ _ _ _ _
  refine AW.ret ?_
  change ResA _ _ _ _ _
  refine res1 rfl (ResV.tmp rfl) rfl ?_
  rfl
theorem eq_Vector (x y : Operand) (a0 a1 a2 a3 a4 a5 b0 b1 b2 b3 b4 b5 : Int) (w : World) : (eqGuard .eql 58 x y (.agg #[.int .i64 a0, .int .i64 a1, .int .i64 a2, .int .i64 a3, .int .i64 a4, .int .i64 a5]) (.agg #[.int .i64 b0, .int .i64 b1, .int .i64 b2, .int .i64 b3, .int .i64 b4, .int .i64 b5]) >>= fun _ => binOp .eql 58 (.agg #[.int .i64 a0, .int .i64 a1, .int .i64 a2, .int .i64 a3, .int .i64 a4, .int .i64 a5]) (.agg #[.int .i64 b0, .int .i64 b1, .int .i64 b2, .int .i64 b3, .int .i64 b4, .int .i64 b5])).run Try.prog w = .ok (.bool (decide (a0 = b0 ∧ a1 = b1 ∧ a2 = b2 ∧ a3 = b3 ∧ a4 = b4 ∧ a5 = b5))) w := by
  have h : (Op.equalIn 10000 58 (.agg #[.int .i64 a0, .int .i64 a1, .int .i64 a2, .int .i64 a3, .int .i64 a4, .int .i64 a5]) (.agg #[.int .i64 b0, .int .i64 b1, .int .i64 b2, .int .i64 b3, .int .i64 b4, .int .i64 b5])).run Try.prog w = .ok (decide (a0 = b0 ∧ a1 = b1 ∧ a2 = b2 ∧ a3 = b3 ∧ a4 = b4 ∧ a5 = b5)) w := run_eq_vecD 9999 (fun a b w => run_equalIn_int w 9998 3 .i64 .i64 a b Try.underlying3) a0 a1 a2 a3 a4 a5 b0 b1 b2 b3 b4 b5 w
  go_simp <;> rw [h]
theorem rd_eq_Vector {o : Oper} {t : List AV} {st : List TK} {x y : Operand} {yt : TypeId} {a0 a1 a2 a3 a4 a5 b0 b1 b2 b3 b4 b5 : Int} (ho : o.op = .binOp .eql 58 x y yt) (hx : evV t x = some (.agg #[.int .i64 a0, .int .i64 a1, .int .i64 a2, .int .i64 a3, .int .i64 a4, .int .i64 a5])) (hy : evV t y = some (.agg #[.int .i64 b0, .int .i64 b1, .int .i64 b2, .int .i64 b3, .int .i64 b4, .int .i64 b5])) : ARd Try.prog o t st (AB (decide (a0 = b0 ∧ a1 = b1 ∧ a2 = b2 ∧ a3 = b3 ∧ a4 = b4 ∧ a5 = b5))) := rd_bin ho hx hy (eq_Vector x y a0 a1 a2 a3 a4 a5 b0 b1 b2 b3 b4 b5)
theorem pnil_c (o : OpD) (v : VecD) : AC Try.prog 9 [o.av, vecA v] (fun x => x = .s (AB true)) := by
  change AC _ _ [.ag [AI o.id.rep, AI o.id.n, AI o.schema.rep, AI o.schema.n, AI o.time, AS o.cart, AI o.kind, AS o.item, AI o.at_.scope, AS o.at_.group, AS o.at_.name, AI o.delta, AB o.has, AS o.text, .sl (o.drops.map TagD.cs)], vecA v] _
  refine AC.of' 77 17 Try.func9 rfl ?_
  change AW _ _ _ _ [TK.mk 0 .off, TK.mk 0 .off, TK.mk 0 .off, TK.mk 0 .off, TK.mk 0 .off, TK.mk 0 .off, TK.mk 0 .off, TK.mk 0 .off, TK.mk 0 .off, TK.mk 0 .off, TK.mk 0 .off, TK.mk 0 .off, TK.mk 0 .off, TK.mk 0 .off, TK.mk 0 .off, TK.mk 0 .off, TK.mk 0 .off]
  refine AW.seq ?_
  refine AW.region ?_
  refine AL.op rfl (AOpB.op (op_box 14 rfl rfl rfl rfl rfl ?_))
  refine AL.no ?_
  refine AL.op rfl (AOpB.op (op_box 15 rfl rfl rfl rfl rfl ?_))
  refine AL.no ?_
  refine AL.ra ?_
  refine AL.nil ?_
  change AW _ _ _ _ _
  refine AW.seq ?_
  refine AW.seq ?_
  refine AW.region ?_
  refine AL.op rfl (AOpB.op (op_call (awake26) rfl (by kernel_rfl) rfl (none) ?_))
  rintro r rfl
  refine AL.no ?_
  refine AL.r (rd_un rfl rfl (fun _ => rfl)) ?_
  refine AL.nil ?_
  change AW _ _ _ _ _
  refine AW.cond_f rfl ?_
  refine AW.skip ?_
  change AW _ _ _ _ _
  refine AW.seq ?_
  refine AW.seq ?_
  refine AW.region ?_
  refine AL.r (rd_loadN_bx rfl ag_47 rfl rfl (Nat.le_of_ble_eq_true rfl) rfl) ?_
  refine AL.op rfl (AOpB.op (op_call (oheavy_c o) rfl (by kernel_rfl) rfl (none) ?_))
  rintro r rfl
  refine AL.no ?_
  refine AL.nil ?_
  change AW _ _ _ _ _
  refine AW.cd rfl (fun h13 => ?_) (fun h13 => ?_)
  ·skip
   refine AW.seq ?_
   refine AW.region ?_
   refine AL.ra ?_
   refine AL.nil ?_
   change AW _ _ _ _ _
   refine AW.ret ?_
   change ResA _ _ _ _ _
   refine res1 rfl (ResV.tmp rfl) rfl ?_
   rfl
  ·skip
   refine AW.skip ?_
   change AW _ _ _ _ _
   refine AW.seq ?_
   refine AW.region ?_
   refine AL.ra ?_
   refine AL.nil ?_
   change AW _ _ _ _ _
   refine AW.seq ?_
   refine AW.region ?_
   refine AL.rm ?_
   refine AL.r (rd_faddr_bx rfl fo_47_0 rfl rfl ⟨_, _, rfl⟩) ?_
   refine AL.r (rd_loadN_bx rfl ag_44 rfl rfl (Nat.le_of_ble_eq_true rfl) rfl) ?_
   refine AL.op rfl (AOpB.op (op_call (nfind_c o.id) rfl (by kernel_rfl) rfl (none) ?_))
   rintro r rfl
   refine AL.no ?_
   refine AL.rm ?_
   refine AL.r (rd_extract rfl rfl rfl) ?_
   refine AL.r (rd_extract rfl rfl rfl) ?_
   refine AL.op rfl (AOpB.op (op_alloc 16 rfl ze_47 rfl ?_))
   refine AL.no ?_
   refine AL.op rfl (op_store_ rfl rfl rfl rfl rfl sz_47 ?_)
   refine AL.no ?_
   refine AL.ra ?_
   refine AL.nil ?_
   change AW _ _ _ _ _
   refine AW.seq ?_
   refine AW.region ?_
   refine AL.op rfl (calloQ (pnew_c 0 0 0 0 0 0 0) [0, 1, 2, 3, 4, 5, 6] ?_)
   rintro y os' ⟨rfl, a1, a2, a3, a4, a5, a6, rfl⟩
   refine AL.noQ ?_
   refine AL.ra ?_
   refine AL.nil ?_
   change AW _ _ _ _ _
   refine AW.seq ?_
   refine AW.region ?_
   refine AL.rm ?_
   refine AL.op rfl (calloQ (pcopy_c newP okP_new 1 a1 a2 a3 a4 a5 a6 0 0 0 0 0 0 0) [0, 1, 2, 3, 4, 5, 6, 7, 8, 9, 10, 11, 12, 13] ?_)
   rintro y os' ⟨rfl, ts, ⟨b1, b2, b3, b4, b5, b6, rfl⟩, rfl⟩
   refine AL.noQ ?_
   refine AL.ra ?_
   refine AL.nil ?_
   change AW _ _ _ _ _
   refine AW.seq ?_
   refine AW.region ?_
   refine AL.rm ?_
   refine AL.r (rd_loadN_bx rfl ag_47 rfl rfl (Nat.le_of_ble_eq_true rfl) rfl) ?_
   refine AL.op rfl (calloQ (pput_c newP 1 b1 b2 b3 b4 b5 b6 okP_new o) [7, 8, 9, 10, 11, 12, 13] ?_)
   rintro y os' ⟨rfl, c1, c2, c3, c4, c5, c6, rfl⟩
   refine AL.noQ ?_
   refine AL.nil ?_
   change AW _ _ _ _ _
   refine AW.seq ?_
   refine AW.region ?_
   refine AL.rm ?_
   refine AL.r (rd_loadN_bx rfl ag_47 rfl rfl (Nat.le_of_ble_eq_true rfl) rfl) ?_
   refine AL.op rfl (AOpB.op (op_call (nput_c o) rfl (by kernel_rfl) rfl (none) ?_))
   rintro r rfl
   refine AL.no ?_
   refine AL.r (rd_bin rfl rfl rfl (fun _ => rfl)) ?_
   refine AL.rm ?_
   refine AL.ro (rd_move rfl rfl) ?_
   refine AL.ro (rd_bin rfl rfl rfl (fun _ => rfl)) ?_
   refine AL.r (rd_pick_t rfl rfl rfl) ?_
   refine AL.rm ?_
   refine AL.fk (d := 35) rfl (fun h35 => ?_) (fun h35 => ?_)
   ·skip
    refine AL.n ?_
    refine AL.ro (rd_loadN_bx rfl ag_47 rfl rfl (Nat.le_of_ble_eq_true rfl) rfl) ?_
    refine AL.ro (rd_build rfl pl_47 ze_47 rfl rfl) ?_
    refine AL.on rfl rfl rfl (AOpB.op (op_call (rsameo_c zeroO zeroO) rfl (by kernel_rfl) rfl (none) ?_))
    rintro r rfl
    refine AL.no ?_
    refine AL.r (rd_pick_t rfl rfl rfl) ?_
    refine AL.rm ?_
    refine AL.fk (d := 40) rfl (fun h40 => ?_) (fun h40 => ?_)
    ·skip
     refine AL.n ?_
     refine AL.ro (rd_move rfl rfl) ?_
     refine AL.on rfl rfl rfl (AOpB.op (op_call (nops_c) rfl (by kernel_rfl) rfl (none) ?_))
     rintro r rfl
     refine AL.no ?_
     refine AL.ro (rd_len_sl rfl el_50 rfl) ?_
     refine AL.ro (rd_bin rfl rfl rfl (fun _ => rfl)) ?_
     refine AL.r (rd_pick_t rfl rfl rfl) ?_
     refine AL.rm ?_
     refine AL.fk (d := 46) rfl (fun h46 => ?_) (fun h46 => ?_)
     ·skip
      refine AL.n ?_
      refine AL.ro (rd_move rfl rfl) ?_
      refine AL.ro (rd_loadN_bx rfl ag_58 rfl rfl (Nat.le_of_ble_eq_true rfl) rfl) ?_
      refine AL.on rfl rfl rfl (AOpB.op (op_call (nsince_c v 9) rfl (by kernel_rfl) rfl (none) ?_))
      rintro r rfl
      refine AL.no ?_
      refine AL.ro (rd_len_sl rfl el_50 rfl) ?_
      refine AL.ro (rd_bin rfl rfl rfl (fun _ => rfl)) ?_
      refine AL.r (rd_pick_t rfl rfl rfl) ?_
      refine AL.rm ?_
      refine AL.fk (d := 53) rfl (fun h53 => ?_) (fun h53 => ?_)
      ·skip
       refine AL.n ?_
       refine AL.ro (rd_move rfl rfl) ?_
       refine AL.on rfl rfl rfl (AOpB.op (op_call (nhave_c) rfl (by kernel_rfl) rfl (none) ?_))
       rintro r rfl
       refine AL.no ?_
       refine AL.ro (rd_buildA rfl ar_58 ze_58 rfl rfl) ?_
       refine AL.ro (rd_eq_Vector rfl rfl rfl) ?_
       refine AL.r (rd_pick_t rfl rfl rfl) ?_
       refine AL.rm ?_
       refine AL.fk (d := 59) rfl (fun h59 => ?_) (fun h59 => ?_)
       ·skip
        refine AL.n ?_
        refine AL.ro (rd_move rfl rfl) ?_
        refine AL.on rfl rfl rfl (AOpB.op (op_call (nlen_c) rfl (by kernel_rfl) rfl (none) ?_))
        rintro r rfl
        refine AL.no ?_
        refine AL.ro (rd_bin rfl rfl rfl (fun _ => rfl)) ?_
        refine AL.r (rd_pick_t rfl rfl rfl) ?_
        refine AL.rm ?_
        refine AL.ro (rd_move rfl rfl) ?_
        refine AL.on rfl rfl rfl (AOpB.op (op_call (nclock_c) rfl (by kernel_rfl) rfl (none) ?_))
        rintro r rfl
        refine AL.no ?_
        refine AL.ro (rd_bin rfl rfl rfl (fun _ => rfl)) ?_
        refine AL.r (rd_pick_t rfl rfl rfl) ?_
        refine AL.rm ?_
        refine AL.ro (rd_move rfl rfl) ?_
        refine AL.on rfl rfl rfl (AOpB.op (op_call (ncopy_c) rfl (by kernel_rfl) rfl (none) ?_))
        rintro r rfl
        refine AL.no ?_
        refine AL.ro (rd_peq_nil rfl pt_41 rfl rfl) ?_
        refine AL.r (rd_pick_t rfl rfl rfl) ?_
        refine AL.rm ?_
        refine AL.ro (rd_move rfl rfl) ?_
        refine AL.on rfl rfl rfl (calloQ (plen_c newP 1 a1 a2 a3 a4 a5 a6 (by decide)) [0, 1, 2, 3, 4, 5, 6] ?_)
        rintro y os' ⟨rfl, rfl⟩
        refine AL.noQ ?_
        refine AL.ro (rd_bin rfl rfl rfl (fun _ => rfl)) ?_
        refine AL.r (rd_pick_t rfl rfl rfl) ?_
        refine AL.ra ?_
        refine AL.nil ?_
        change AW _ _ _ _ _
        refine AW.ret ?_
        change ResA _ _ _ _ _
        refine res1 rfl (ResV.tmp rfl) rfl ?_
        first | rfl | (exfalso; simp_all [zeroV, zeroO]; done)
       ·skip
        refine AL.n ?_
        refine AL.rf ?_
        refine AL.rf ?_
        refine AL.rf ?_
        refine AL.r (rd_pick_f rfl rfl rfl) ?_
        refine AL.rm ?_
        refine AL.rf ?_
        refine AL.rf ?_
        refine AL.rf ?_
        refine AL.r (rd_pick_f rfl rfl rfl) ?_
        refine AL.rm ?_
        refine AL.rf ?_
        refine AL.rf ?_
        refine AL.rf ?_
        refine AL.r (rd_pick_f rfl rfl rfl) ?_
        refine AL.rm ?_
        refine AL.rf ?_
        refine AL.rf ?_
        refine AL.rf ?_
        refine AL.r (rd_pick_f rfl rfl rfl) ?_
        refine AL.ra ?_
        refine AL.nil ?_
        change AW _ _ _ _ _
        refine AW.ret ?_
        change ResA _ _ _ _ _
        refine res1 rfl (ResV.tmp rfl) rfl ?_
        first | rfl | (exfalso; simp_all [zeroV, zeroO]; done)
      ·skip
       refine AL.n ?_
       refine AL.rf ?_
       refine AL.rf ?_
       refine AL.rf ?_
       refine AL.rf ?_
       refine AL.r (rd_pick_f rfl rfl rfl) ?_
       refine AL.rm ?_
       refine AL.rf ?_
       refine AL.rf ?_
       refine AL.rf ?_
       refine AL.r (rd_pick_f rfl rfl rfl) ?_
       refine AL.rm ?_
       refine AL.rf ?_
       refine AL.rf ?_
       refine AL.rf ?_
       refine AL.r (rd_pick_f rfl rfl rfl) ?_
       refine AL.rm ?_
       refine AL.rf ?_
       refine AL.rf ?_
       refine AL.rf ?_
       refine AL.r (rd_pick_f rfl rfl rfl) ?_
       refine AL.rm ?_
       refine AL.rf ?_
       refine AL.rf ?_
       refine AL.rf ?_
       refine AL.r (rd_pick_f rfl rfl rfl) ?_
       refine AL.ra ?_
       refine AL.nil ?_
       change AW _ _ _ _ _
       refine AW.ret ?_
       change ResA _ _ _ _ _
       refine res1 rfl (ResV.tmp rfl) rfl ?_
       first | rfl | (exfalso; simp_all [zeroV, zeroO]; done)
     ·skip
      refine AL.n ?_
      refine AL.rf ?_
      refine AL.rf ?_
      refine AL.rf ?_
      refine AL.rf ?_
      refine AL.rf ?_
      refine AL.r (rd_pick_f rfl rfl rfl) ?_
      refine AL.rm ?_
      refine AL.rf ?_
      refine AL.rf ?_
      refine AL.rf ?_
      refine AL.rf ?_
      refine AL.r (rd_pick_f rfl rfl rfl) ?_
      refine AL.rm ?_
      refine AL.rf ?_
      refine AL.rf ?_
      refine AL.rf ?_
      refine AL.r (rd_pick_f rfl rfl rfl) ?_
      refine AL.rm ?_
      refine AL.rf ?_
      refine AL.rf ?_
      refine AL.rf ?_
      refine AL.r (rd_pick_f rfl rfl rfl) ?_
      refine AL.rm ?_
      refine AL.rf ?_
      refine AL.rf ?_
      refine AL.rf ?_
      refine AL.r (rd_pick_f rfl rfl rfl) ?_
      refine AL.rm ?_
      refine AL.rf ?_
      refine AL.rf ?_
      refine AL.rf ?_
      refine AL.r (rd_pick_f rfl rfl rfl) ?_
      refine AL.ra ?_
      refine AL.nil ?_
      change AW _ _ _ _ _
      refine AW.ret ?_
      change ResA _ _ _ _ _
      refine res1 rfl (ResV.tmp rfl) rfl ?_
      first | rfl | (exfalso; simp_all [zeroV, zeroO]; done)
    ·skip
     refine AL.n ?_
     refine AL.rf ?_
     refine AL.rf ?_
     refine AL.rf ?_
     refine AL.rf ?_
     refine AL.r (rd_pick_f rfl rfl rfl) ?_
     refine AL.rm ?_
     refine AL.rf ?_
     refine AL.rf ?_
     refine AL.rf ?_
     refine AL.rf ?_
     refine AL.rf ?_
     refine AL.r (rd_pick_f rfl rfl rfl) ?_
     refine AL.rm ?_
     refine AL.rf ?_
     refine AL.rf ?_
     refine AL.rf ?_
     refine AL.rf ?_
     refine AL.r (rd_pick_f rfl rfl rfl) ?_
     refine AL.rm ?_
     refine AL.rf ?_
     refine AL.rf ?_
     refine AL.rf ?_
     refine AL.r (rd_pick_f rfl rfl rfl) ?_
     refine AL.rm ?_
     refine AL.rf ?_
     refine AL.rf ?_
     refine AL.rf ?_
     refine AL.r (rd_pick_f rfl rfl rfl) ?_
     refine AL.rm ?_
     refine AL.rf ?_
     refine AL.rf ?_
     refine AL.rf ?_
     refine AL.r (rd_pick_f rfl rfl rfl) ?_
     refine AL.rm ?_
     refine AL.rf ?_
     refine AL.rf ?_
     refine AL.rf ?_
     refine AL.r (rd_pick_f rfl rfl rfl) ?_
     refine AL.ra ?_
     refine AL.nil ?_
     change AW _ _ _ _ _
     refine AW.ret ?_
     change ResA _ _ _ _ _
     refine res1 rfl (ResV.tmp rfl) rfl ?_
     first | rfl | (exfalso; simp_all [zeroV, zeroO]; done)
   ·skip
    refine AL.n ?_
    refine AL.rf ?_
    refine AL.rf ?_
    refine AL.rf ?_
    refine AL.r (rd_pick_f rfl rfl rfl) ?_
    refine AL.rm ?_
    refine AL.rf ?_
    refine AL.rf ?_
    refine AL.rf ?_
    refine AL.rf ?_
    refine AL.r (rd_pick_f rfl rfl rfl) ?_
    refine AL.rm ?_
    refine AL.rf ?_
    refine AL.rf ?_
    refine AL.rf ?_
    refine AL.rf ?_
    refine AL.rf ?_
    refine AL.r (rd_pick_f rfl rfl rfl) ?_
    refine AL.rm ?_
    refine AL.rf ?_
    refine AL.rf ?_
    refine AL.rf ?_
    refine AL.rf ?_
    refine AL.r (rd_pick_f rfl rfl rfl) ?_
    refine AL.rm ?_
    refine AL.rf ?_
    refine AL.rf ?_
    refine AL.rf ?_
    refine AL.r (rd_pick_f rfl rfl rfl) ?_
    refine AL.rm ?_
    refine AL.rf ?_
    refine AL.rf ?_
    refine AL.rf ?_
    refine AL.r (rd_pick_f rfl rfl rfl) ?_
    refine AL.rm ?_
    refine AL.rf ?_
    refine AL.rf ?_
    refine AL.rf ?_
    refine AL.r (rd_pick_f rfl rfl rfl) ?_
    refine AL.rm ?_
    refine AL.rf ?_
    refine AL.rf ?_
    refine AL.rf ?_
    refine AL.r (rd_pick_f rfl rfl rfl) ?_
    refine AL.ra ?_
    refine AL.nil ?_
    change AW _ _ _ _ _
    refine AW.ret ?_
    change ResA _ _ _ _ _
    refine res1 rfl (ResV.tmp rfl) rfl ?_
    first | rfl | (exfalso; simp_all [zeroV, zeroO]; done)
end Go.Proofs.Ytfjnkhanndkpfaa
