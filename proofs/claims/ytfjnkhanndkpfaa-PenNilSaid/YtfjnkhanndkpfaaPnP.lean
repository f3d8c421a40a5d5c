/- A reader that isn't there, walked over abstract states. No conditions. (Several texts in one.) -/
import Derived.Test.YtfjnkhanndkpfaaThB
import Derived.Test.YtfjnkhanndkpfaaPnB
import Derived.Test.YtfjnkhanndkpfaaOwS
import Derived.Test.YtfjnkhanndkpfaaTab
import Derived.Test.YtfjnkhanndkpfaaOgD
/- A reader that isn't there, walked over abstract states. No conditions. -/
namespace Go.Proofs.Ytfjnkhanndkpfaa
set_option linter.unusedSimpArgs false
set_option linter.unusedVariables false
set_option maxRecDepth 100000
set_option maxRecDepth 100000
open Go.RowKit

def scB : AV → Bool
  | .sc (.slice _ _ _) => false
  | .sc _ => true
  | _ => false
theorem set1_sc {st : List TK} {x : AV} (h : scB x = true) : set1 st x = some x := by
  cases x with
  | sc v => cases v <;> first | rfl | cases h
  | _ => cases h
theorem sets_sc {st : List TK} : ∀ {zs : List AV}, zs.all scB = true → sets st zs = some zs
  | [], _ => rfl
  | x :: xs, h => by
    rw [List.all_cons, Bool.and_eq_true] at h
    unfold sets
    rw [set1_sc h.1, sets_sc h.2]
theorem setA_sc {st : List TK} {zs : List AV} (h : zs.all scB = true) : setA st (.ag zs) = some (.ag zs) := by
  show (match sets st zs with | some ys => some (AV.ag ys) | none => none) = some (AV.ag zs)
  rw [sets_sc h]

theorem nbad_c : AC Try.prog 48 [.sc (.pointer none)] (fun r => r = .s (AB true)) := by
  refine AC.of' 18 0 Try.func48 rfl ?_
  change AW _ _ _ _ []
  refine AW.seq ?_
  refine AW.region ?_
  refine AL.ra ?_
  refine AL.nil ?_
  change AW _ _ _ _ _
  refine AW.seq ?_
  refine AW.region ?_
  refine AL.rm ?_
  refine AL.r (rd_peq_nil rfl pt_80 rfl rfl) ?_
  refine AL.rm ?_
  refine AL.rf ?_
  refine AL.rf ?_
  refine AL.rf ?_
  refine AL.rf ?_
  refine AL.r (rd_pick_t rfl rfl rfl) ?_
  refine AL.rm ?_
  refine AL.rf ?_
  refine AL.rf ?_
  refine AL.rf ?_
  refine AL.rf ?_
  refine AL.rf ?_
  refine AL.rf ?_
  refine AL.r (rd_pick_t rfl rfl rfl) ?_
  refine AL.ra ?_
  refine AL.nil ?_
  change AW _ _ _ _ _
  refine AW.ret ?_
  change ResA _ _ _ _ _
  refine res1 rfl (ResV.tmp rfl) rfl ?_
  rfl
theorem nformat_c : AC Try.prog 49 [.sc (.pointer none)] (fun r => r = .s (AI 0)) := by
  refine AC.of' 8 0 Try.func49 rfl ?_
  change AW _ _ _ _ []
  refine AW.seq ?_
  refine AW.region ?_
  refine AL.ra ?_
  refine AL.nil ?_
  change AW _ _ _ _ _
  refine AW.seq ?_
  refine AW.seq ?_
  refine AW.region ?_
  refine AL.rm ?_
  refine AL.r (rd_peq_nil rfl pt_80 rfl rfl) ?_
  refine AL.nil ?_
  change AW _ _ _ _ _
  refine AW.cond_t rfl ?_
  refine AW.seq ?_
  refine AW.region ?_
  refine AL.ra ?_
  refine AL.nil ?_
  change AW _ _ _ _ _
  refine AW.ret ?_
  change ResA _ _ _ _ _
  refine res1 rfl (ResV.tmp rfl) rfl ?_
  rfl
theorem nspoil_c : AC Try.prog 95 [.sc (.pointer none)] (fun r => r = .s (.tu [])) := by
  refine AC.of' 6 0 Try.func95 rfl ?_
  change AW _ _ _ _ []
  refine AW.seq ?_
  refine AW.region ?_
  refine AL.rm ?_
  refine AL.r (rd_pne_nil rfl pt_80 rfl rfl) ?_
  refine AL.nil ?_
  change AW _ _ _ _ _
  refine AW.cond_f rfl ?_
  refine AW.skip ?_
  change ResA _ _ _ _ _
  refine res0 rfl ?_
  rfl
theorem nnum_c : AC Try.prog 54 [.sc (.pointer none)] (fun r => r = .s (AI 0)) := by
  refine AC.of' 33 0 Try.func54 rfl ?_
  change AW _ _ _ _ []
  refine AW.seq ?_
  refine AW.region ?_
  refine AL.ra ?_
  refine AL.nil ?_
  change AW _ _ _ _ _
  refine AW.seq ?_
  refine AW.seq ?_
  refine AW.region ?_
  refine AL.rm ?_
  refine AL.op rfl (AOpB.op (op_call (nbad_c) rfl (by kernel_rfl) rfl (none) ?_))
  rintro r rfl
  refine AL.n ?_
  refine AL.nil ?_
  change AW _ _ _ _ _
  refine AW.cond_t rfl ?_
  refine AW.seq ?_
  refine AW.region ?_
  refine AL.ra ?_
  refine AL.nil ?_
  change AW _ _ _ _ _
  refine AW.ret ?_
  change ResA _ _ _ _ _
  refine res1 rfl (ResV.tmp rfl) rfl ?_
  rfl
theorem nleft_c : AC Try.prog 50 [.sc (.pointer none)] (fun r => r = .s (AI 0)) := by
  refine AC.of' 14 0 Try.func50 rfl ?_
  change AW _ _ _ _ []
  refine AW.seq ?_
  refine AW.region ?_
  refine AL.ra ?_
  refine AL.nil ?_
  change AW _ _ _ _ _
  refine AW.seq ?_
  refine AW.seq ?_
  refine AW.region ?_
  refine AL.rm ?_
  refine AL.op rfl (AOpB.op (op_call (nbad_c) rfl (by kernel_rfl) rfl (none) ?_))
  rintro r rfl
  refine AL.n ?_
  refine AL.nil ?_
  change AW _ _ _ _ _
  refine AW.cond_t rfl ?_
  refine AW.seq ?_
  refine AW.region ?_
  refine AL.ra ?_
  refine AL.nil ?_
  change AW _ _ _ _ _
  refine AW.ret ?_
  change ResA _ _ _ _ _
  refine res1 rfl (ResV.tmp rfl) rfl ?_
  rfl
theorem nend_c : AC Try.prog 51 [.sc (.pointer none)] (fun r => r = .s (AI 8)) := by
  refine AC.of' 9 0 Try.func51 rfl ?_
  change AW _ _ _ _ []
  refine AW.seq ?_
  refine AW.region ?_
  refine AL.ra ?_
  refine AL.nil ?_
  change AW _ _ _ _ _
  refine AW.seq ?_
  refine AW.seq ?_
  refine AW.region ?_
  refine AL.rm ?_
  refine AL.op rfl (AOpB.op (op_call (nbad_c) rfl (by kernel_rfl) rfl (none) ?_))
  rintro r rfl
  refine AL.n ?_
  refine AL.rm ?_
  refine AL.rf ?_
  refine AL.rf ?_
  refine AL.rf ?_
  refine AL.r (rd_pick_t rfl rfl rfl) ?_
  refine AL.nil ?_
  change AW _ _ _ _ _
  refine AW.cond_t rfl ?_
  refine AW.seq ?_
  refine AW.region ?_
  refine AL.ra ?_
  refine AL.nil ?_
  change AW _ _ _ _ _
  refine AW.ret ?_
  change ResA _ _ _ _ _
  refine res1 rfl (ResV.tmp rfl) rfl ?_
  rfl
theorem ncount_c (most : Int) : AC Try.prog 94 [.sc (.pointer none), AI most] (fun r => r = .s (AI 0)) := by
  refine AC.of' 16 0 Try.func94 rfl ?_
  change AW _ _ _ _ []
  refine AW.seq ?_
  refine AW.region ?_
  refine AL.ra ?_
  refine AL.nil ?_
  change AW _ _ _ _ _
  refine AW.seq ?_
  refine AW.region ?_
  refine AL.rm ?_
  refine AL.op rfl (AOpB.op (op_call (nnum_c) rfl (by kernel_rfl) rfl (none) ?_))
  rintro r rfl
  refine AL.n ?_
  refine AL.ra ?_
  refine AL.nil ?_
  change AW _ _ _ _ _
  refine AW.seq ?_
  refine AW.seq ?_
  refine AW.region ?_
  refine AL.rm ?_
  refine AL.r (rd_bin rfl rfl rfl (fun _ => rfl)) ?_
  refine AL.rm ?_
  refine AL.ro (rd_move rfl rfl) ?_
  refine AL.ro (rd_move rfl rfl) ?_
  refine AL.ro (rd_bin rfl rfl rfl (fun _ => rfl)) ?_
  refine AL.r (rd_pick_f rfl rfl rfl) ?_
  refine AL.nil ?_
  change AW _ _ _ _ _
  refine AW.cd rfl (fun h14 => ?_) (fun h14 => ?_)
  ·skip
   refine AW.seq ?_
   refine AW.region ?_
   refine AL.rm ?_
   refine AL.op rfl (AOpB.op (op_call (nspoil_c) rfl (by kernel_rfl) rfl (none) ?_))
   rintro r rfl
   refine AL.n ?_
   refine AL.nil ?_
   change AW _ _ _ _ _
   refine AW.seq ?_
   refine AW.region ?_
   refine AL.ra ?_
   refine AL.nil ?_
   change AW _ _ _ _ _
   refine AW.ret ?_
   change ResA _ _ _ _ _
   refine res1 rfl (ResV.tmp rfl) rfl ?_
   rfl
  ·skip
   refine AW.skip ?_
   change AW _ _ _ _ _
   refine AW.seq ?_
   refine AW.region ?_
   refine AL.rm ?_
   refine AL.ra ?_
   refine AL.nil ?_
   change AW _ _ _ _ _
   refine AW.ret ?_
   change ResA _ _ _ _ _
   refine res1 rfl (ResV.tmp rfl) rfl ?_
   rfl
theorem ntext_c (most : Int) : AC Try.prog 89 [.sc (.pointer none), AI most] (fun r => r = .s (AS [])) := by
  refine AC.of' 47 0 Try.func89 rfl ?_
  change AW _ _ _ _ []
  refine AW.seq ?_
  refine AW.region ?_
  refine AL.ra ?_
  refine AL.nil ?_
  change AW _ _ _ _ _
  refine AW.seq ?_
  refine AW.region ?_
  refine AL.rm ?_
  refine AL.op rfl (AOpB.op (op_call (nnum_c) rfl (by kernel_rfl) rfl (none) ?_))
  rintro r rfl
  refine AL.n ?_
  refine AL.ra ?_
  refine AL.nil ?_
  change AW _ _ _ _ _
  refine AW.seq ?_
  refine AW.seq ?_
  refine AW.region ?_
  refine AL.rm ?_
  refine AL.r (rd_bin rfl rfl rfl (fun _ => rfl)) ?_
  refine AL.rm ?_
  refine AL.ro (rd_move rfl rfl) ?_
  refine AL.ro (rd_move rfl rfl) ?_
  refine AL.ro (rd_bin rfl rfl rfl (fun _ => rfl)) ?_
  refine AL.r (rd_pick_f rfl rfl rfl) ?_
  refine AL.rm ?_
  refine AL.fk (d := 16) rfl (fun h16 => ?_) (fun h16 => ?_)
  ·skip
   refine AL.n ?_
   refine AL.rf ?_
   refine AL.rf ?_
   refine AL.rf ?_
   refine AL.rf ?_
   refine AL.r (rd_pick_t rfl rfl rfl) ?_
   refine AL.nil ?_
   change AW _ _ _ _ _
   refine AW.cond_t rfl ?_
   refine AW.region ?_
   refine AL.rm ?_
   refine AL.op rfl (AOpB.op (op_call (nspoil_c) rfl (by kernel_rfl) rfl (none) ?_))
   rintro r rfl
   refine AL.n ?_
   refine AL.nil ?_
   change AW _ _ _ _ _
   refine AW.seq ?_
   refine AW.seq ?_
   refine AW.region ?_
   refine AL.rm ?_
   refine AL.op rfl (AOpB.op (op_call (nbad_c) rfl (by kernel_rfl) rfl (none) ?_))
   rintro r rfl
   refine AL.n ?_
   refine AL.nil ?_
   change AW _ _ _ _ _
   refine AW.cond_t rfl ?_
   refine AW.seq ?_
   refine AW.region ?_
   refine AL.ra ?_
   refine AL.nil ?_
   change AW _ _ _ _ _
   refine AW.ret ?_
   change ResA _ _ _ _ _
   refine res1 rfl (ResV.tmp rfl) rfl ?_
   rfl
  ·skip
   refine AL.n ?_
   refine AL.ro (rd_move rfl rfl) ?_
   refine AL.ro (rd_move rfl rfl) ?_
   refine AL.on rfl rfl rfl (AOpB.op (op_call (nleft_c) rfl (by kernel_rfl) rfl (none) ?_))
   rintro r rfl
   refine AL.n ?_
   refine AL.ro (rd_bin rfl rfl rfl (fun _ => rfl)) ?_
   refine AL.r (rd_pick_f rfl rfl rfl) ?_
   refine AL.nil ?_
   change AW _ _ _ _ _
   refine AW.cond_f rfl ?_
   refine AW.skip ?_
   change AW _ _ _ _ _
   refine AW.seq ?_
   refine AW.seq ?_
   refine AW.region ?_
   refine AL.rm ?_
   refine AL.op rfl (AOpB.op (op_call (nbad_c) rfl (by kernel_rfl) rfl (none) ?_))
   rintro r rfl
   refine AL.n ?_
   refine AL.nil ?_
   change AW _ _ _ _ _
   refine AW.cond_t rfl ?_
   refine AW.seq ?_
   refine AW.region ?_
   refine AL.ra ?_
   refine AL.nil ?_
   change AW _ _ _ _ _
   refine AW.ret ?_
   change ResA _ _ _ _ _
   refine res1 rfl (ResV.tmp rfl) rfl ?_
   rfl
theorem nflag_c : AC Try.prog 90 [.sc (.pointer none)] (fun r => r = .s (AB false)) := by
  refine AC.of' 40 0 Try.func90 rfl ?_
  change AW _ _ _ _ []
  refine AW.seq ?_
  refine AW.region ?_
  refine AL.ra ?_
  refine AL.nil ?_
  change AW _ _ _ _ _
  refine AW.seq ?_
  refine AW.seq ?_
  refine AW.draw (by kernel_rfl) ?_
  refine AD.r 0 rfl (rd_move rfl rfl) rfl ?_
  refine AD.move 1 rfl (by kernel_rfl) rfl (op_call (nleft_c) rfl (by kernel_rfl) rfl (none) ?_)
  rintro r rfl
  refine AD.n ?_
  refine AD.r 2 rfl (rd_bin rfl rfl rfl (fun _ => rfl)) rfl ?_
  refine AD.r 3 rfl (rd_move rfl rfl) rfl ?_
  refine AD.s 4 rfl ⟨_, _, rfl, rfl, rfl⟩ ?_
  refine AD.s 5 rfl ⟨_, _, rfl, rfl, rfl⟩ ?_
  refine AD.s 6 rfl ⟨_, _, rfl, rfl, rfl⟩ ?_
  refine AD.s 7 rfl ⟨_, _, rfl, rfl, rfl⟩ ?_
  refine AD.s 8 rfl ⟨_, _, rfl, rfl, rfl⟩ ?_
  refine AD.s 9 rfl ⟨_, _, rfl, rfl, rfl⟩ ?_
  refine AD.s 10 rfl ⟨_, _, rfl, rfl, rfl⟩ ?_
  refine AD.s 11 rfl ⟨_, _, rfl, rfl, rfl⟩ ?_
  refine AD.s 12 rfl ⟨_, _, rfl, rfl, rfl⟩ ?_
  refine AD.s 13 rfl ⟨_, _, rfl, rfl, rfl⟩ ?_
  refine AD.s 14 rfl ⟨_, _, rfl, rfl, rfl⟩ ?_
  refine AD.r 15 rfl (rd_pick_t rfl rfl rfl) rfl ?_
  refine AD.done (by kernel_rfl) ?_
  change AW _ _ _ _ _
  refine AW.cond_t rfl ?_
  refine AW.seq ?_
  refine AW.region ?_
  refine AL.rm ?_
  refine AL.op rfl (AOpB.op (op_call (nspoil_c) rfl (by kernel_rfl) rfl (none) ?_))
  rintro r rfl
  refine AL.n ?_
  refine AL.nil ?_
  change AW _ _ _ _ _
  refine AW.seq ?_
  refine AW.region ?_
  refine AL.ra ?_
  refine AL.nil ?_
  change AW _ _ _ _ _
  refine AW.ret ?_
  change ResA _ _ _ _ _
  refine res1 rfl (ResV.tmp rfl) rfl ?_
  rfl
theorem ntag_c : AC Try.prog 91 [.sc (.pointer none)] (fun r => r = .s (.ag [AI 0, AI 0])) := by
  refine AC.of' 12 2 Try.func91 rfl ?_
  change AW _ _ _ _ [TK.mk 0 .off, TK.mk 0 .off]
  refine AW.seq ?_
  refine AW.region ?_
  refine AL.op rfl (AOpB.op (op_alloc 0 rfl ze_44 rfl ?_))
  refine AL.n ?_
  refine AL.nil ?_
  change AW _ _ _ _ _
  refine AW.seq ?_
  refine AW.region ?_
  refine AL.rm ?_
  refine AL.op rfl (AOpB.op (op_call (nnum_c) rfl (by kernel_rfl) rfl (none) ?_))
  rintro r rfl
  refine AL.n ?_
  refine AL.rm ?_
  refine AL.op rfl (AOpB.op (op_call (nnum_c) rfl (by kernel_rfl) rfl (none) ?_))
  rintro r rfl
  refine AL.n ?_
  refine AL.r (rd_build rfl pl_44 ze_44 rfl rfl) ?_
  refine AL.op rfl (AOpB.op (op_alloc 1 rfl ze_44 rfl ?_))
  refine AL.n ?_
  refine AL.op rfl (op_store_ rfl rfl rfl rfl rfl sz_44 ?_)
  refine AL.n ?_
  refine AL.nil ?_
  change AW _ _ _ _ _
  refine AW.seq ?_
  refine AW.seq ?_
  refine AW.region ?_
  refine AL.rm ?_
  refine AL.op rfl (AOpB.op (op_call (nbad_c) rfl (by kernel_rfl) rfl (none) ?_))
  rintro r rfl
  refine AL.n ?_
  refine AL.nil ?_
  change AW _ _ _ _ _
  refine AW.cond_t rfl ?_
  refine AW.seq ?_
  refine AW.region ?_
  refine AL.r (rd_build rfl pl_44 ze_44 rfl rfl) ?_
  refine AL.op rfl (op_store_ rfl rfl rfl rfl rfl sz_44 ?_)
  refine AL.n ?_
  refine AL.nil ?_
  change AW _ _ _ _ _
  refine AW.ret ?_
  change ResA _ _ _ _ _
  refine res1 rfl (ResV.cells rfl rfl ag_44 (Nat.le_of_ble_eq_true rfl) rfl) rfl ?_
  rfl
theorem nref_c : AC Try.prog 93 [.sc (.pointer none)] (fun r => r = .s (.ag [AI 0, AS [], AS []])) := by
  refine AC.of' 16 2 Try.func93 rfl ?_
  change AW _ _ _ _ [TK.mk 0 .off, TK.mk 0 .off]
  refine AW.seq ?_
  refine AW.region ?_
  refine AL.op rfl (AOpB.op (op_alloc 0 rfl ze_27 rfl ?_))
  refine AL.n ?_
  refine AL.nil ?_
  change AW _ _ _ _ _
  refine AW.seq ?_
  refine AW.region ?_
  refine AL.op rfl (AOpB.op (op_alloc 1 rfl ze_27 rfl ?_))
  refine AL.n ?_
  refine AL.nil ?_
  change AW _ _ _ _ _
  refine AW.seq ?_
  refine AW.region ?_
  refine AL.rm ?_
  refine AL.op rfl (AOpB.op (op_call (nnum_c) rfl (by kernel_rfl) rfl (none) ?_))
  rintro r rfl
  refine AL.n ?_
  refine AL.r (rd_faddr_bx rfl fo_27_0 rfl rfl ⟨_, _, rfl⟩) ?_
  refine AL.op rfl (op_store_ rfl rfl rfl rfl rfl sz_3 ?_)
  refine AL.n ?_
  refine AL.nil ?_
  change AW _ _ _ _ _
  refine AW.seq ?_
  refine AW.region ?_
  refine AL.rm ?_
  refine AL.op rfl (AOpB.op (op_call (ntext_c 12) rfl (by kernel_rfl) rfl (none) ?_))
  rintro r rfl
  refine AL.n ?_
  refine AL.r (rd_faddr_bx rfl fo_27_1 rfl rfl ⟨_, _, rfl⟩) ?_
  refine AL.op rfl (op_store_ rfl rfl rfl rfl rfl sz_9 ?_)
  refine AL.n ?_
  refine AL.nil ?_
  change AW _ _ _ _ _
  refine AW.seq ?_
  refine AW.region ?_
  refine AL.rm ?_
  refine AL.op rfl (AOpB.op (op_call (ntext_c 12) rfl (by kernel_rfl) rfl (none) ?_))
  rintro r rfl
  refine AL.n ?_
  refine AL.r (rd_faddr_bx rfl fo_27_2 rfl rfl ⟨_, _, rfl⟩) ?_
  refine AL.op rfl (op_store_ rfl rfl rfl rfl rfl sz_9 ?_)
  refine AL.n ?_
  refine AL.nil ?_
  change AW _ _ _ _ _
  refine AW.seq ?_
  refine AW.seq ?_
  refine AW.region ?_
  refine AL.rm ?_
  refine AL.op rfl (AOpB.op (op_call (nbad_c) rfl (by kernel_rfl) rfl (none) ?_))
  rintro r rfl
  refine AL.n ?_
  refine AL.nil ?_
  change AW _ _ _ _ _
  refine AW.cond_t rfl ?_
  refine AW.seq ?_
  refine AW.region ?_
  refine AL.r (rd_build rfl pl_27 ze_27 rfl rfl) ?_
  refine AL.op rfl (op_store_ rfl rfl rfl rfl rfl sz_27 ?_)
  refine AL.n ?_
  refine AL.nil ?_
  change AW _ _ _ _ _
  refine AW.ret ?_
  change ResA _ _ _ _ _
  refine res1 rfl (ResV.cells rfl rfl ag_27 (Nat.le_of_ble_eq_true rfl) rfl) rfl ?_
  rfl
theorem nvector_c : AC Try.prog 92 [.sc (.pointer none)] (fun r => r = .s (.ag [AI 0, AI 0, AI 0, AI 0, AI 0, AI 0])) := by
  refine AC.of' 16 2 Try.func92 rfl ?_
  change AW _ _ _ _ [TK.mk 0 .off, TK.mk 0 .off]
  refine AW.seq ?_
  refine AW.region ?_
  refine AL.op rfl (AOpB.op (op_alloc 0 rfl ze_58 rfl ?_))
  refine AL.n ?_
  refine AL.nil ?_
  change AW _ _ _ _ _
  refine AW.seq ?_
  refine AW.region ?_
  refine AL.op rfl (AOpB.op (op_alloc 1 rfl ze_58 rfl ?_))
  refine AL.n ?_
  refine AL.nil ?_
  change AW _ _ _ _ _
  refine AW.seq ?_
  refine AW.seq ?_
  refine AW.region ?_
  refine AL.rm ?_
  refine AL.nil ?_
  change AW _ _ _ _ _
  refine AW.block ?_
  refine AW.unroll 7 ?_
  change AW _ _ _ _ _
  refine AW.seq ?_
  refine AW.region ?_
  refine AL.r (rd_bin rfl rfl rfl (fun _ => rfl)) ?_
  refine AL.nil ?_
  change AW _ _ _ _ _
  refine AW.seq ?_
  refine AW.cond_t rfl ?_
  refine AW.skip ?_
  change AW _ _ _ _ _
  refine AW.seq ?_
  refine AW.block ?_
  refine AW.seq ?_
  refine AW.region ?_
  refine AL.rm ?_
  refine AL.ra ?_
  refine AL.nil ?_
  change AW _ _ _ _ _
  refine AW.region ?_
  refine AL.rm ?_
  refine AL.rm ?_
  refine AL.op rfl (AOpB.op (op_call (nnum_c) rfl (by kernel_rfl) rfl (none) ?_))
  rintro r rfl
  refine AL.n ?_
  refine AL.r (rd_iaddr_bx_ 0 rfl ar_58 rfl rfl rfl) ?_
  refine AL.op rfl (op_store_ rfl rfl rfl rfl rfl sz_3 ?_)
  refine AL.n ?_
  refine AL.nil ?_
  change AW _ _ _ _ _
  refine AW.region ?_
  refine AL.r (rd_arith_add rfl rfl rfl (rfl : _ = (1 : Int))) ?_
  refine AL.rm ?_
  refine AL.nil ?_
  change AW _ _ _ _ _
  refine AW.seq ?_
  refine AW.region ?_
  refine AL.r (rd_bin rfl rfl rfl (fun _ => rfl)) ?_
  refine AL.nil ?_
  change AW _ _ _ _ _
  refine AW.seq ?_
  refine AW.cond_t rfl ?_
  refine AW.skip ?_
  change AW _ _ _ _ _
  refine AW.seq ?_
  refine AW.block ?_
  refine AW.seq ?_
  refine AW.region ?_
  refine AL.rm ?_
  refine AL.ra ?_
  refine AL.nil ?_
  change AW _ _ _ _ _
  refine AW.region ?_
  refine AL.rm ?_
  refine AL.rm ?_
  refine AL.op rfl (AOpB.op (op_call (nnum_c) rfl (by kernel_rfl) rfl (none) ?_))
  rintro r rfl
  refine AL.n ?_
  refine AL.r (rd_iaddr_bx_ 1 rfl ar_58 rfl rfl rfl) ?_
  refine AL.op rfl (op_store_ rfl rfl rfl rfl rfl sz_3 ?_)
  refine AL.n ?_
  refine AL.nil ?_
  change AW _ _ _ _ _
  refine AW.region ?_
  refine AL.r (rd_arith_add rfl rfl rfl (rfl : _ = (2 : Int))) ?_
  refine AL.rm ?_
  refine AL.nil ?_
  change AW _ _ _ _ _
  refine AW.seq ?_
  refine AW.region ?_
  refine AL.r (rd_bin rfl rfl rfl (fun _ => rfl)) ?_
  refine AL.nil ?_
  change AW _ _ _ _ _
  refine AW.seq ?_
  refine AW.cond_t rfl ?_
  refine AW.skip ?_
  change AW _ _ _ _ _
  refine AW.seq ?_
  refine AW.block ?_
  refine AW.seq ?_
  refine AW.region ?_
  refine AL.rm ?_
  refine AL.ra ?_
  refine AL.nil ?_
  change AW _ _ _ _ _
  refine AW.region ?_
  refine AL.rm ?_
  refine AL.rm ?_
  refine AL.op rfl (AOpB.op (op_call (nnum_c) rfl (by kernel_rfl) rfl (none) ?_))
  rintro r rfl
  refine AL.n ?_
  refine AL.r (rd_iaddr_bx_ 2 rfl ar_58 rfl rfl rfl) ?_
  refine AL.op rfl (op_store_ rfl rfl rfl rfl rfl sz_3 ?_)
  refine AL.n ?_
  refine AL.nil ?_
  change AW _ _ _ _ _
  refine AW.region ?_
  refine AL.r (rd_arith_add rfl rfl rfl (rfl : _ = (3 : Int))) ?_
  refine AL.rm ?_
  refine AL.nil ?_
  change AW _ _ _ _ _
  refine AW.seq ?_
  refine AW.region ?_
  refine AL.r (rd_bin rfl rfl rfl (fun _ => rfl)) ?_
  refine AL.nil ?_
  change AW _ _ _ _ _
  refine AW.seq ?_
  refine AW.cond_t rfl ?_
  refine AW.skip ?_
  change AW _ _ _ _ _
  refine AW.seq ?_
  refine AW.block ?_
  refine AW.seq ?_
  refine AW.region ?_
  refine AL.rm ?_
  refine AL.ra ?_
  refine AL.nil ?_
  change AW _ _ _ _ _
  refine AW.region ?_
  refine AL.rm ?_
  refine AL.rm ?_
  refine AL.op rfl (AOpB.op (op_call (nnum_c) rfl (by kernel_rfl) rfl (none) ?_))
  rintro r rfl
  refine AL.n ?_
  refine AL.r (rd_iaddr_bx_ 3 rfl ar_58 rfl rfl rfl) ?_
  refine AL.op rfl (op_store_ rfl rfl rfl rfl rfl sz_3 ?_)
  refine AL.n ?_
  refine AL.nil ?_
  change AW _ _ _ _ _
  refine AW.region ?_
  refine AL.r (rd_arith_add rfl rfl rfl (rfl : _ = (4 : Int))) ?_
  refine AL.rm ?_
  refine AL.nil ?_
  change AW _ _ _ _ _
  refine AW.seq ?_
  refine AW.region ?_
  refine AL.r (rd_bin rfl rfl rfl (fun _ => rfl)) ?_
  refine AL.nil ?_
  change AW _ _ _ _ _
  refine AW.seq ?_
  refine AW.cond_t rfl ?_
  refine AW.skip ?_
  change AW _ _ _ _ _
  refine AW.seq ?_
  refine AW.block ?_
  refine AW.seq ?_
  refine AW.region ?_
  refine AL.rm ?_
  refine AL.ra ?_
  refine AL.nil ?_
  change AW _ _ _ _ _
  refine AW.region ?_
  refine AL.rm ?_
  refine AL.rm ?_
  refine AL.op rfl (AOpB.op (op_call (nnum_c) rfl (by kernel_rfl) rfl (none) ?_))
  rintro r rfl
  refine AL.n ?_
  refine AL.r (rd_iaddr_bx_ 4 rfl ar_58 rfl rfl rfl) ?_
  refine AL.op rfl (op_store_ rfl rfl rfl rfl rfl sz_3 ?_)
  refine AL.n ?_
  refine AL.nil ?_
  change AW _ _ _ _ _
  refine AW.region ?_
  refine AL.r (rd_arith_add rfl rfl rfl (rfl : _ = (5 : Int))) ?_
  refine AL.rm ?_
  refine AL.nil ?_
  change AW _ _ _ _ _
  refine AW.seq ?_
  refine AW.region ?_
  refine AL.r (rd_bin rfl rfl rfl (fun _ => rfl)) ?_
  refine AL.nil ?_
  change AW _ _ _ _ _
  refine AW.seq ?_
  refine AW.cond_t rfl ?_
  refine AW.skip ?_
  change AW _ _ _ _ _
  refine AW.seq ?_
  refine AW.block ?_
  refine AW.seq ?_
  refine AW.region ?_
  refine AL.rm ?_
  refine AL.ra ?_
  refine AL.nil ?_
  change AW _ _ _ _ _
  refine AW.region ?_
  refine AL.rm ?_
  refine AL.rm ?_
  refine AL.op rfl (AOpB.op (op_call (nnum_c) rfl (by kernel_rfl) rfl (none) ?_))
  rintro r rfl
  refine AL.n ?_
  refine AL.r (rd_iaddr_bx_ 5 rfl ar_58 rfl rfl rfl) ?_
  refine AL.op rfl (op_store_ rfl rfl rfl rfl rfl sz_3 ?_)
  refine AL.n ?_
  refine AL.nil ?_
  change AW _ _ _ _ _
  refine AW.region ?_
  refine AL.r (rd_arith_add rfl rfl rfl (rfl : _ = (6 : Int))) ?_
  refine AL.rm ?_
  refine AL.nil ?_
  change AW _ _ _ _ _
  refine AW.seq ?_
  refine AW.region ?_
  refine AL.r (rd_bin rfl rfl rfl (fun _ => rfl)) ?_
  refine AL.nil ?_
  change AW _ _ _ _ _
  refine AW.seq ?_
  refine AW.cond_f rfl ?_
  refine AW.exit ?_
  change AW _ _ _ _ _
  refine AW.seq ?_
  refine AW.seq ?_
  refine AW.region ?_
  refine AL.rm ?_
  refine AL.op rfl (AOpB.op (op_call (nbad_c) rfl (by kernel_rfl) rfl (none) ?_))
  rintro r rfl
  refine AL.n ?_
  refine AL.nil ?_
  change AW _ _ _ _ _
  refine AW.cond_t rfl ?_
  refine AW.seq ?_
  refine AW.region ?_
  refine AL.r (rd_buildA rfl ar_58 ze_58 rfl rfl) ?_
  refine AL.op rfl (op_store_ rfl rfl rfl rfl rfl sz_58 ?_)
  refine AL.n ?_
  refine AL.nil ?_
  change AW _ _ _ _ _
  refine AW.ret ?_
  change ResA _ _ _ _ _
  refine res1 rfl (ResV.cells rfl rfl ag_58 (Nat.le_of_ble_eq_true rfl) rfl) rfl ?_
  rfl
set_option maxHeartbeats 400000 in
theorem nask_c (x : ThingD) : AC Try.prog 47 [.sc (.pointer none), x.av] (fun r => r = .s (.ag [AI (out8 x).kind, AI (out8 x).n, AS (out8 x).s, AB (out8 x).f, AI (out8 x).t.rep, AI (out8 x).t.n, AI (out8 x).v.a, AI (out8 x).v.b, AI (out8 x).v.c, AI (out8 x).v.d, AI (out8 x).v.e, AI (out8 x).v.f, AI (out8 x).r.scope, AS (out8 x).r.group, AS (out8 x).r.name, AI (out8 x).most])) := by
  change AC _ _ [.sc (.pointer none), .ag [AI x.kind, AI x.n, AS x.s, AB x.f, AI x.t.rep, AI x.t.n, AI x.v.a, AI x.v.b, AI x.v.c, AI x.v.d, AI x.v.e, AI x.v.f, AI x.r.scope, AS x.r.group, AS x.r.name, AI x.most]] _
  refine AC.of' 53 3 Try.func47 rfl ?_
  change AW _ _ _ _ [TK.mk 0 .off, TK.mk 0 .off, TK.mk 0 .off]
  refine AW.seq ?_
  refine AW.region ?_
  refine AL.op rfl (AOpB.op (op_box 0 rfl rfl rfl rfl rfl ?_))
  refine AL.n ?_
  refine AL.op rfl (AOpB.op (op_alloc 1 rfl ze_79 rfl ?_))
  refine AL.n ?_
  refine AL.nil ?_
  change AW _ _ _ _ _
  refine AW.seq ?_
  refine AW.region ?_
  refine AL.r (rd_faddr_bx rfl fo_79_0 rfl rfl ⟨_, _, rfl⟩) ?_
  refine AL.r (rd_load_bx rfl ag_3 rfl rfl rfl) ?_
  refine AL.r (rd_faddr_bx rfl fo_79_7 rfl rfl ⟨_, _, rfl⟩) ?_
  refine AL.r (rd_load_bx rfl ag_3 rfl rfl rfl) ?_
  refine AL.r (rd_build rfl pl_79 ze_79 rfl rfl) ?_
  refine AL.op rfl (AOpB.op (op_alloc 2 rfl ze_79 rfl ?_))
  refine AL.n ?_
  refine AL.op rfl (op_store_ rfl rfl rfl rfl rfl sz_79 ?_)
  refine AL.b ?_
  refine AL.nil ?_
  change AW _ _ _ _ _
  refine AW.seq ?_
  refine AW.seq ?_
  refine AW.region ?_
  refine AL.r (rd_faddr_bx rfl fo_79_0 rfl rfl ⟨_, _, rfl⟩) ?_
  refine AL.r (rd_load_bx rfl ag_3 rfl rfl rfl) ?_
  refine AL.nil ?_
  change AW _ _ _ _ _
  refine AW.block ?_
  refine AW.seq ?_
  refine AW.region ?_
  refine AL.r (rd_bin rfl rfl rfl (fun _ => rfl)) ?_
  refine AL.ra ?_
  refine AL.nil ?_
  change AW _ _ _ _ _
  refine AW.cd rfl (fun h15 => ?_) (fun h15 => ?_)
  ·skip
   refine AW.region ?_
   refine AL.rm ?_
   refine AL.op rfl (AOpB.op (op_call (nnum_c) rfl (by kernel_rfl) rfl (none) ?_))
   rintro r rfl
   refine AL.n ?_
   refine AL.r (rd_faddr_bx rfl fo_79_1 rfl rfl ⟨_, _, rfl⟩) ?_
   refine AL.op rfl (op_store_ rfl rfl rfl rfl rfl sz_2 ?_)
   refine AL.b ?_
   refine AL.nil ?_
   change AW _ _ _ _ _
   refine AW.seq ?_
   refine AW.region ?_
   refine AL.r (rd_loadN_bx rfl ag_79 rfl rfl (Nat.le_of_ble_eq_true rfl) rfl) ?_
   refine AL.op rfl (op_store_ rfl rfl rfl rfl rfl sz_79 ?_)
   refine AL.b ?_
   refine AL.nil ?_
   change AW _ _ _ _ _
   refine AW.ret ?_
   change ResA _ _ _ _ _
   refine res1 rfl (ResV.cells rfl rfl ag_79 (Nat.le_of_ble_eq_true rfl) rfl) (setA_sc rfl) ?_
   rfl
  ·skip
   refine AW.seq ?_
   refine AW.region ?_
   refine AL.r (rd_bin rfl rfl rfl (fun _ => rfl)) ?_
   refine AL.ra ?_
   refine AL.nil ?_
   change AW _ _ _ _ _
   refine AW.cd rfl (fun h20 => ?_) (fun h20 => ?_)
   ·skip
    refine AW.region ?_
    refine AL.rm ?_
    refine AL.r (rd_faddr_bx rfl fo_79_7 rfl rfl ⟨_, _, rfl⟩) ?_
    refine AL.r (rd_load_bx rfl ag_3 rfl rfl rfl) ?_
    refine AL.op rfl (AOpB.op (op_call (ntext_c x.most) rfl (by kernel_rfl) rfl (none) ?_))
    rintro r rfl
    refine AL.n ?_
    refine AL.r (rd_faddr_bx rfl fo_79_2 rfl rfl ⟨_, _, rfl⟩) ?_
    refine AL.op rfl (op_store_ rfl rfl rfl rfl rfl sz_9 ?_)
    refine AL.b ?_
    refine AL.nil ?_
    change AW _ _ _ _ _
    refine AW.seq ?_
    refine AW.region ?_
    refine AL.r (rd_loadN_bx rfl ag_79 rfl rfl (Nat.le_of_ble_eq_true rfl) rfl) ?_
    refine AL.op rfl (op_store_ rfl rfl rfl rfl rfl sz_79 ?_)
    refine AL.b ?_
    refine AL.nil ?_
    change AW _ _ _ _ _
    refine AW.ret ?_
    change ResA _ _ _ _ _
    refine res1 rfl (ResV.cells rfl rfl ag_79 (Nat.le_of_ble_eq_true rfl) rfl) (setA_sc rfl) ?_
    rfl
   ·skip
    refine AW.seq ?_
    refine AW.region ?_
    refine AL.r (rd_bin rfl rfl rfl (fun _ => rfl)) ?_
    refine AL.ra ?_
    refine AL.nil ?_
    change AW _ _ _ _ _
    refine AW.cd rfl (fun h27 => ?_) (fun h27 => ?_)
    ·skip
     refine AW.region ?_
     refine AL.rm ?_
     refine AL.op rfl (AOpB.op (op_call (nflag_c) rfl (by kernel_rfl) rfl (none) ?_))
     rintro r rfl
     refine AL.n ?_
     refine AL.r (rd_faddr_bx rfl fo_79_3 rfl rfl ⟨_, _, rfl⟩) ?_
     refine AL.op rfl (op_store_ rfl rfl rfl rfl rfl sz_4 ?_)
     refine AL.b ?_
     refine AL.nil ?_
     change AW _ _ _ _ _
     refine AW.seq ?_
     refine AW.region ?_
     refine AL.r (rd_loadN_bx rfl ag_79 rfl rfl (Nat.le_of_ble_eq_true rfl) rfl) ?_
     refine AL.op rfl (op_store_ rfl rfl rfl rfl rfl sz_79 ?_)
     refine AL.b ?_
     refine AL.nil ?_
     change AW _ _ _ _ _
     refine AW.ret ?_
     change ResA _ _ _ _ _
     refine res1 rfl (ResV.cells rfl rfl ag_79 (Nat.le_of_ble_eq_true rfl) rfl) (setA_sc rfl) ?_
     rfl
    ·skip
     refine AW.seq ?_
     refine AW.region ?_
     refine AL.r (rd_bin rfl rfl rfl (fun _ => rfl)) ?_
     refine AL.ra ?_
     refine AL.nil ?_
     change AW _ _ _ _ _
     refine AW.cd rfl (fun h32 => ?_) (fun h32 => ?_)
     ·skip
      refine AW.region ?_
      refine AL.rm ?_
      refine AL.op rfl (AOpB.op (op_call (ntag_c) rfl (by kernel_rfl) rfl (none) ?_))
      rintro r rfl
      refine AL.n ?_
      refine AL.r (rd_faddr_bx rfl fo_79_4 rfl rfl ⟨_, _, rfl⟩) ?_
      refine AL.op rfl (op_store_ rfl rfl rfl rfl rfl sz_44 ?_)
      refine AL.b ?_
      refine AL.nil ?_
      change AW _ _ _ _ _
      refine AW.seq ?_
      refine AW.region ?_
      refine AL.r (rd_loadN_bx rfl ag_79 rfl rfl (Nat.le_of_ble_eq_true rfl) rfl) ?_
      refine AL.op rfl (op_store_ rfl rfl rfl rfl rfl sz_79 ?_)
      refine AL.b ?_
      refine AL.nil ?_
      change AW _ _ _ _ _
      refine AW.ret ?_
      change ResA _ _ _ _ _
      refine res1 rfl (ResV.cells rfl rfl ag_79 (Nat.le_of_ble_eq_true rfl) rfl) (setA_sc rfl) ?_
      rfl
     ·skip
      refine AW.seq ?_
      refine AW.region ?_
      refine AL.r (rd_bin rfl rfl rfl (fun _ => rfl)) ?_
      refine AL.ra ?_
      refine AL.nil ?_
      change AW _ _ _ _ _
      refine AW.cd rfl (fun h37 => ?_) (fun h37 => ?_)
      ·skip
       refine AW.region ?_
       refine AL.rm ?_
       refine AL.op rfl (AOpB.op (op_call (nvector_c) rfl (by kernel_rfl) rfl (none) ?_))
       rintro r rfl
       refine AL.n ?_
       refine AL.r (rd_faddr_bx rfl fo_79_5 rfl rfl ⟨_, _, rfl⟩) ?_
       refine AL.op rfl (op_store_ rfl rfl rfl rfl rfl sz_58 ?_)
       refine AL.b ?_
       refine AL.nil ?_
       change AW _ _ _ _ _
       refine AW.seq ?_
       refine AW.region ?_
       refine AL.r (rd_loadN_bx rfl ag_79 rfl rfl (Nat.le_of_ble_eq_true rfl) rfl) ?_
       refine AL.op rfl (op_store_ rfl rfl rfl rfl rfl sz_79 ?_)
       refine AL.b ?_
       refine AL.nil ?_
       change AW _ _ _ _ _
       refine AW.ret ?_
       change ResA _ _ _ _ _
       refine res1 rfl (ResV.cells rfl rfl ag_79 (Nat.le_of_ble_eq_true rfl) rfl) (setA_sc rfl) ?_
       rfl
      ·skip
       refine AW.seq ?_
       refine AW.region ?_
       refine AL.r (rd_bin rfl rfl rfl (fun _ => rfl)) ?_
       refine AL.ra ?_
       refine AL.nil ?_
       change AW _ _ _ _ _
       refine AW.cd rfl (fun h42 => ?_) (fun h42 => ?_)
       ·skip
        refine AW.region ?_
        refine AL.rm ?_
        refine AL.op rfl (AOpB.op (op_call (nref_c) rfl (by kernel_rfl) rfl (none) ?_))
        rintro r rfl
        refine AL.n ?_
        refine AL.r (rd_faddr_bx rfl fo_79_6 rfl rfl ⟨_, _, rfl⟩) ?_
        refine AL.op rfl (op_store_ rfl rfl rfl rfl rfl sz_27 ?_)
        refine AL.b ?_
        refine AL.nil ?_
        change AW _ _ _ _ _
        refine AW.seq ?_
        refine AW.region ?_
        refine AL.r (rd_loadN_bx rfl ag_79 rfl rfl (Nat.le_of_ble_eq_true rfl) rfl) ?_
        refine AL.op rfl (op_store_ rfl rfl rfl rfl rfl sz_79 ?_)
        refine AL.b ?_
        refine AL.nil ?_
        change AW _ _ _ _ _
        refine AW.ret ?_
        change ResA _ _ _ _ _
        refine res1 rfl (ResV.cells rfl rfl ag_79 (Nat.le_of_ble_eq_true rfl) rfl) (setA_sc rfl) ?_
        rfl
       ·skip
        refine AW.seq ?_
        refine AW.region ?_
        refine AL.r (rd_bin rfl rfl rfl (fun _ => rfl)) ?_
        refine AL.ra ?_
        refine AL.nil ?_
        change AW _ _ _ _ _
        refine AW.cd rfl (fun h47 => ?_) (fun h47 => ?_)
        ·skip
         refine AW.region ?_
         refine AL.rm ?_
         refine AL.r (rd_faddr_bx rfl fo_79_7 rfl rfl ⟨_, _, rfl⟩) ?_
         refine AL.r (rd_load_bx rfl ag_3 rfl rfl rfl) ?_
         refine AL.op rfl (AOpB.op (op_call (ncount_c x.most) rfl (by kernel_rfl) rfl (none) ?_))
         rintro r rfl
         refine AL.n ?_
         refine AL.r (rd_faddr_bx rfl fo_79_1 rfl rfl ⟨_, _, rfl⟩) ?_
         refine AL.op rfl (op_store_ rfl rfl rfl rfl rfl sz_2 ?_)
         refine AL.b ?_
         refine AL.nil ?_
         change AW _ _ _ _ _
         refine AW.seq ?_
         refine AW.region ?_
         refine AL.r (rd_loadN_bx rfl ag_79 rfl rfl (Nat.le_of_ble_eq_true rfl) rfl) ?_
         refine AL.op rfl (op_store_ rfl rfl rfl rfl rfl sz_79 ?_)
         refine AL.b ?_
         refine AL.nil ?_
         change AW _ _ _ _ _
         refine AW.ret ?_
         change ResA _ _ _ _ _
         refine res1 rfl (ResV.cells rfl rfl ag_79 (Nat.le_of_ble_eq_true rfl) rfl) (setA_sc rfl) ?_
         rfl
        ·skip
         refine AW.region ?_
         refine AL.rm ?_
         refine AL.op rfl (AOpB.op (op_call (nspoil_c) rfl (by kernel_rfl) rfl (none) ?_))
         rintro r rfl
         refine AL.n ?_
         refine AL.nil ?_
         change AW _ _ _ _ _
         refine AW.seq ?_
         refine AW.region ?_
         refine AL.r (rd_loadN_bx rfl ag_79 rfl rfl (Nat.le_of_ble_eq_true rfl) rfl) ?_
         refine AL.op rfl (op_store_ rfl rfl rfl rfl rfl sz_79 ?_)
         refine AL.b ?_
         refine AL.nil ?_
         change AW _ _ _ _ _
         refine AW.ret ?_
         change ResA _ _ _ _ _
         refine res1 rfl (ResV.cells rfl rfl ag_79 (Nat.le_of_ble_eq_true rfl) rfl) (setA_sc rfl) ?_
         rfl
end Go.Proofs.Ytfjnkhanndkpfaa
/- The law PenNil, walked over abstract states. No conditions. -/
namespace Go.Proofs.Ytfjnkhanndkpfaa
set_option linter.unusedSimpArgs false
set_option linter.unusedVariables false
set_option maxRecDepth 100000
set_option maxRecDepth 100000
open Go.RowKit Go.ChangeShapes Go.WideShapes Go.ChangeAt Go.Deep

theorem vec_eq (a b c d e h : Int) (w : World) : (Op.equalIn 9999 58 (.agg #[.int .i64 a, .int .i64 b, .int .i64 c, .int .i64 d, .int .i64 e, .int .i64 h]) (.agg #[.int .i64 a, .int .i64 b, .int .i64 c, .int .i64 d, .int .i64 e, .int .i64 h])).run Try.prog w = .ok true w := by
  have hc : Try.prog.cellsOf 3 = 1 := by kernel_rfl
  have hsome : (Try.prog.info? 3).isSome = true := by kernel_rfl
  obtain ⟨i, hi⟩ := Option.isSome_iff_exists.1 hsome
  rw [show (9999 : Nat) = 9998 + 1 from rfl, run_equalIn_array w 9998 _ _ Try.underlying58 hi, hc, show List.range 6 = [0, 1, 2, 3, 4, 5] from rfl]
  simp only [Op.eqItems]
  go_simp
theorem ne_Thing (x y : Operand) (k n : Int) (s : Bytes) (f : Bool) (t1 t2 a b c d e h sc : Int) (g m : Bytes) (mo : Int) (w : World) : (eqGuard .neq 79 x y (.agg #[.int .i64 k, .int .i64 n, sv s, .bool f, .int .i64 t1, .int .i64 t2, .int .i64 a, .int .i64 b, .int .i64 c, .int .i64 d, .int .i64 e, .int .i64 h, .int .i64 sc, sv g, sv m, .int .i64 mo]) (.agg #[.int .i64 k, .int .i64 n, sv s, .bool f, .int .i64 t1, .int .i64 t2, .int .i64 a, .int .i64 b, .int .i64 c, .int .i64 d, .int .i64 e, .int .i64 h, .int .i64 sc, sv g, sv m, .int .i64 mo]) >>= fun _ => binOp .neq 79 (.agg #[.int .i64 k, .int .i64 n, sv s, .bool f, .int .i64 t1, .int .i64 t2, .int .i64 a, .int .i64 b, .int .i64 c, .int .i64 d, .int .i64 e, .int .i64 h, .int .i64 sc, sv g, sv m, .int .i64 mo]) (.agg #[.int .i64 k, .int .i64 n, sv s, .bool f, .int .i64 t1, .int .i64 t2, .int .i64 a, .int .i64 b, .int .i64 c, .int .i64 d, .int .i64 e, .int .i64 h, .int .i64 sc, sv g, sv m, .int .i64 mo])).run Try.prog w = .ok (.bool false) w := by
  go_simp
  rw [vec_eq]
  rfl
theorem rd_ne_Thing {o : Oper} {t : List AV} {st : List TK} {x y : Operand} {yt : TypeId} {k n : Int} {s : Bytes} {f : Bool} {t1 t2 a b c d e h sc : Int} {g m : Bytes} {mo : Int} (ho : o.op = .binOp .neq 79 x y yt) (hx : evV t x = some (.agg #[.int .i64 k, .int .i64 n, sv s, .bool f, .int .i64 t1, .int .i64 t2, .int .i64 a, .int .i64 b, .int .i64 c, .int .i64 d, .int .i64 e, .int .i64 h, .int .i64 sc, sv g, sv m, .int .i64 mo])) (hy : evV t y = some (.agg #[.int .i64 k, .int .i64 n, sv s, .bool f, .int .i64 t1, .int .i64 t2, .int .i64 a, .int .i64 b, .int .i64 c, .int .i64 d, .int .i64 e, .int .i64 h, .int .i64 sc, sv g, sv m, .int .i64 mo])) : ARd Try.prog o t st (AB false) := rd_bin ho hx hy (ne_Thing x y k n s f t1 t2 a b c d e h sc g m mo)
theorem awake08 : AC Try.prog 46 [] (fun r => r = .s (AB true)) := by
  refine AC.of' 10 0 Try.func46 rfl ?_
  change AW _ _ _ _ []
  refine AW.seq ?_
  refine AW.region ?_
  refine AL.ra ?_
  refine AL.nil ?_
  change AW _ _ _ _ _
  refine AW.seq ?_
  refine AW.region ?_
  refine AL.op rfl (AOpB.op (op_call (ptext_c [] 2 (by decide) (by unfold i64R; omega) [97, 98] (by decide)) rfl (by kernel_rfl) rfl (none) ?_))
  rintro r rfl
  refine AL.n ?_
  refine AL.r (rd_b2s rfl (by kernel_rfl) (src_s rfl)) ?_
  refine AL.r (rd_seq rfl rfl rfl) ?_
  refine AL.rm ?_
  refine AL.fk (d := 4) rfl (fun h4 => ?_) (fun h4 => ?_)
  ·skip
   refine AL.n ?_
   refine AL.ro (rd_build rfl pl_44 ze_44 rfl rfl) ?_
   refine AL.on rfl rfl rfl (AOpB.op (op_call (ptag_c [] 2 (by decide) (by unfold i64R; omega) ⟨2, 3⟩ ⟨by decide, by decide⟩ ⟨by decide, by decide⟩) rfl (by kernel_rfl) rfl (none) ?_))
   rintro r rfl
   refine AL.n ?_
   refine AL.ro (rd_b2s rfl (by kernel_rfl) (src_s rfl)) ?_
   refine AL.ro (rd_seq rfl rfl rfl) ?_
   refine AL.r (rd_pick_t rfl rfl rfl) ?_
   refine AL.ra ?_
   refine AL.nil ?_
   change AW _ _ _ _ _
   refine AW.ret ?_
   change ResA _ _ _ _ _
   refine res1 rfl (ResV.tmp rfl) rfl ?_
   (refine congrArg (fun b => RS.s (AB b)) ?_; decide)
  ·skip
   exact absurd (by decide) h4
theorem join_l (g : Nat) (l : List UInt8) (hl : l.length ≤ 549755813888) : ACo Try.prog 98 [.ow 0 g, .sl (byA [])] [⟨g, .own 5 1 (byA l)⟩] (fun y os' => y = .sl (byA l) ∧ os' = [⟨g, .own 5 1 (byA l)⟩]) := by
  have hbb := byA_len l
  refine ACo.of' (st0 := [⟨g, .own 5 1 (byA l)⟩, TK.mk 0 .off, TK.mk 0 .off, TK.mk 0 .off]) 16 3 Try.func98 rfl 1 ?_
  refine AW.seq ?_
  refine AW.region ?_
  refine AL.ra ?_
  refine AL.nil ?_
  change AW _ _ _ _ _
  refine AW.seq ?_
  refine AW.region ?_
  refine AL.rm ?_
  refine AL.r (rd_len_ow rfl el_83 rfl rfl) ?_
  refine AL.rm ?_
  refine AL.r (rd_len_sl rfl el_83 rfl) ?_
  refine AL.r (rd_arith_add rfl rfl rfl (by first | exact IntWalk.i64_in _ (by omega) | rfl)) ?_
  refine AL.op rfl (AOpB.op (op_make0 1 rfl ap_83 rfl rfl rfl (by omega) (by omega) rfl ?_))
  refine AL.no ?_
  refine AL.ra ?_
  refine AL.nil ?_
  change AW _ _ _ _ _
  refine AW.seq ?_
  refine AW.region ?_
  refine AL.rm ?_
  refine AL.rm ?_
  refine AL.op rfl (op_append rfl ap_83 rfl rfl (src_ow rfl rfl) (by first | omega | (simp; omega) | simp) (by first | omega | (simp; omega) | simp) ?_)
  refine AL.no ?_
  refine AL.ra ?_
  refine AL.nil ?_
  change AW _ _ _ _ _
  refine AW.seq ?_
  refine AW.region ?_
  refine AL.rm ?_
  refine AL.rm ?_
  refine AL.op rfl (op_append rfl ap_83 rfl rfl (src_s rfl) (by simp only [byA_len, List.length_nil]; omega) (by simp only [byA_len, List.length_nil]; omega) ?_)
  refine AL.no ?_
  refine AL.ra ?_
  refine AL.nil ?_
  change AW _ _ _ _ _
  refine AW.ret ?_
  repeat with_reducible first | refine thenA_ret ?_ | refine inBlockA_ret ?_
  with_reducible first | refine retO_ret ?_ | refine retO_normal ?_
  refine reso1S rfl (ResV.tmp rfl) (by first | exact resO_owM (by decide) rfl | exact resO_own (by decide) rfl | exact resO_set (by decide) rfl | exact resO_setM (by decide) rfl) ?_
  exact ⟨by rw [List.append_nil], rfl⟩
theorem rnew_l (g h : Nat) (l : List UInt8) (hl : l.length ≤ 549755813888) (f : Int) : ACo Try.prog 53 [.ow 0 g, .sc (.int .i64 f)] [⟨g, .own 5 1 (byA l)⟩, ⟨h, .off⟩] (fun y os' => y = .bx 1 (h + 1) 0 ∧ os' = ⟨g, .own 5 1 (byA l)⟩ :: RdrT (h + 1) (newR l f)) := by
  refine ACo.of' (st0 := [⟨g, .own 5 1 (byA l)⟩, ⟨h, .off⟩, TK.mk 0 .off]) 11 1 Try.func53 rfl 2 ?_
  refine AW.seq ?_
  refine AW.region ?_
  refine AL.ra ?_
  refine AL.nil ?_
  change AW _ _ _ _ _
  refine AW.seq ?_
  refine AW.region ?_
  refine AL.rm ?_
  refine AL.op rfl (calloR (join_l g l hl) [0] ?_)
  rintro y os' ⟨rfl, rfl⟩
  refine AL.noR ?_
  refine AL.rm ?_
  refine AL.rm ?_
  refine AL.op rfl (AOpB.op (op_call (cright_c f) rfl (by kernel_rfl) rfl (none) ?_))
  rintro r rfl
  refine AL.no ?_
  refine AL.r (rd_un rfl rfl (fun _ => rfl)) ?_
  refine AL.r (rd_build rfl pl_128 ze_128 rfl rfl) ?_
  refine AL.op rfl (AOpB.op (op_box 1 rfl rfl rfl rfl rfl ?_))
  refine AL.no ?_
  refine AL.ra ?_
  refine AL.nil ?_
  change AW _ _ _ _ _
  refine AW.ret ?_
  repeat with_reducible first | refine thenA_ret ?_ | refine inBlockA_ret ?_
  with_reducible first | refine retO_ret ?_ | refine retO_normal ?_
  refine reso1R rfl (ResV.tmp rfl) (resO_bx (by decide) rfl) ?_
  exact ⟨rfl, rfl⟩
theorem num_new {n : Int} (hn : i64R n) : (numP (newR (putN 1 n) 1)).1 = n :=
  (num_at (r := newR (putN 1 n) 1) (f := 1) (pre := []) (suf := []) ⟨by simp [newR], rfl, rfl, rfl, rfl⟩ hn).1
theorem pennil_c (x : ThingD) (n : Int) (hn : i64R n) : AC Try.prog 10 [x.av, .sc (.int .i64 n)] (fun r => r = .s (AB true)) := by
  have hpl := putN_len 1 n
  have hbb := byA_len (putN 1 n)
  obtain ⟨c0, hc0⟩ : ∃ c : UInt8, (putN 1 n)[0]? = some c := ⟨_, List.getElem?_eq_getElem (List.length_pos_iff.2 (putN_ne (.inl rfl)))⟩
  have hg0 : (byA (putN 1 n))[0]? = some [.sc (bv c0)] := get_byA hc0
  have hp0 : 0 < (putN 1 n).length := List.length_pos_iff.2 (putN_ne (.inl rfl))
  change AC _ _ [.ag [AI x.kind, AI x.n, AS x.s, AB x.f, AI x.t.rep, AI x.t.n, AI x.v.a, AI x.v.b, AI x.v.c, AI x.v.d, AI x.v.e, AI x.v.f, AI x.r.scope, AS x.r.group, AS x.r.name, AI x.most], .sc (.int .i64 n)] _
  refine AC.of' 51 3 Try.func10 rfl ?_
  change AW _ _ _ _ [TK.mk 0 .off, TK.mk 0 .off, TK.mk 0 .off]
  refine AW.seq ?_
  refine AW.region ?_
  refine AL.op rfl (AOpB.op (op_box 1 rfl rfl rfl rfl rfl ?_))
  refine AL.no ?_
  refine AL.ra ?_
  refine AL.nil ?_
  change AW _ _ _ _ _
  refine AW.seq ?_
  refine AW.seq ?_
  refine AW.region ?_
  refine AL.op rfl (AOpB.op (op_call (awake08) rfl (by kernel_rfl) rfl (none) ?_))
  rintro r rfl
  refine AL.no ?_
  refine AL.r (rd_un rfl rfl (fun _ => rfl)) ?_
  refine AL.nil ?_
  change AW _ _ _ _ _
  refine AW.cond_f rfl ?_
  refine AW.skip ?_
  change AW _ _ _ _ _
  refine AW.seq ?_
  refine AW.region ?_
  refine AL.ra ?_
  refine AL.nil ?_
  change AW _ _ _ _ _
  refine AW.seq ?_
  refine AW.seq ?_
  refine AW.draw (by kernel_rfl) ?_
  refine AD.r 0 rfl (rd_move rfl rfl) rfl ?_
  refine AD.r 1 rfl (rd_loadN_bx rfl ag_79 rfl rfl (Nat.le_of_ble_eq_true rfl) rfl) rfl ?_
  refine AD.r 3 rfl (rd_faddr_bx rfl fo_79_0 rfl rfl ⟨_, _, rfl⟩) rfl ?_
  refine AD.r 4 rfl (rd_load_bx rfl ag_3 rfl rfl rfl) rfl ?_
  refine AD.r 5 rfl (rd_faddr_bx rfl fo_79_7 rfl rfl ⟨_, _, rfl⟩) rfl ?_
  refine AD.r 6 rfl (rd_load_bx rfl ag_3 rfl rfl rfl) rfl ?_
  refine AD.r 7 rfl (rd_build rfl pl_79 ze_79 rfl rfl) rfl ?_
  refine AD.move 2 rfl (by kernel_rfl) rfl (op_call (nask_c x) rfl (by kernel_rfl) rfl (none) ?_)
  rintro r rfl
  refine AD.n ?_
  refine AD.r 8 rfl (rd_ne_Thing rfl rfl rfl) rfl ?_
  refine AD.r 9 rfl (rd_move rfl rfl) rfl ?_
  refine AD.fk (d := 19) rfl (fun h19 => ?_) (fun h19 => ?_)
  ·skip
   cases h19
  ·skip
   refine AD.n ?_
   refine AD.r 10 rfl (rd_move rfl rfl) ⟨_, _, rfl, rfl, rfl⟩ ?_
   refine AD.move 11 rfl (by kernel_rfl) ⟨_, _, rfl, rfl, rfl⟩ (op_call (nbad_c) rfl (by kernel_rfl) rfl (none) ?_)
   rintro r rfl
   refine AD.n ?_
   refine AD.r 12 rfl (rd_un rfl rfl (fun _ => rfl)) ⟨_, _, rfl, rfl, rfl⟩ ?_
   refine AD.r 13 rfl (rd_pick_f rfl rfl rfl) rfl ?_
   refine AD.r 14 rfl (rd_move rfl rfl) rfl ?_
   refine AD.r 15 rfl (rd_move rfl rfl) ⟨_, _, rfl, rfl, rfl⟩ ?_
   refine AD.move 16 rfl (by kernel_rfl) ⟨_, _, rfl, rfl, rfl⟩ (op_call (nformat_c) rfl (by kernel_rfl) rfl (none) ?_)
   rintro r rfl
   refine AD.n ?_
   refine AD.r 17 rfl (rd_bin rfl rfl rfl (fun _ => rfl)) ⟨_, _, rfl, rfl, rfl⟩ ?_
   refine AD.r 18 rfl (rd_pick_f rfl rfl rfl) rfl ?_
   refine AD.r 19 rfl (rd_move rfl rfl) rfl ?_
   refine AD.r 20 rfl (rd_move rfl rfl) ⟨_, _, rfl, rfl, rfl⟩ ?_
   refine AD.move 21 rfl (by kernel_rfl) ⟨_, _, rfl, rfl, rfl⟩ (op_call (nleft_c) rfl (by kernel_rfl) rfl (none) ?_)
   rintro r rfl
   refine AD.n ?_
   refine AD.r 22 rfl (rd_bin rfl rfl rfl (fun _ => rfl)) ⟨_, _, rfl, rfl, rfl⟩ ?_
   refine AD.r 23 rfl (rd_pick_f rfl rfl rfl) rfl ?_
   refine AD.r 24 rfl (rd_move rfl rfl) rfl ?_
   refine AD.r 25 rfl (rd_move rfl rfl) ⟨_, _, rfl, rfl, rfl⟩ ?_
   refine AD.move 26 rfl (by kernel_rfl) ⟨_, _, rfl, rfl, rfl⟩ (op_call (nend_c) rfl (by kernel_rfl) rfl (none) ?_)
   rintro r rfl
   refine AD.n ?_
   refine AD.r 27 rfl (rd_bin rfl rfl rfl (fun _ => rfl)) ⟨_, _, rfl, rfl, rfl⟩ ?_
   refine AD.r 28 rfl (rd_pick_f rfl rfl rfl) rfl ?_
   refine AD.done (by kernel_rfl) ?_
   change AW _ _ _ _ _
   refine AW.cond_f rfl ?_
   refine AW.skip ?_
   change AW _ _ _ _ _
   refine AW.seq ?_
   refine AW.region ?_
   refine AL.rm ?_
   refine AL.op rfl (AOpB.op (op_call (crput_n 1 (by unfold i64R; omega) (by decide) n hn) rfl (by kernel_rfl) rfl (some 2) ?_))
   rintro r rfl
   refine ⟨_, rfl, ?_⟩
   refine AL.no ?_
   refine AL.ra ?_
   refine AL.nil ?_
   change AW _ _ _ _ _
   refine AW.seq ?_
   refine AW.region ?_
   refine AL.rm ?_
   refine AL.op rfl (calloR (rnew_l 1 0 (putN 1 n) (by omega) 1) [2, 0] ?_)
   rintro y os' ⟨rfl, rfl⟩
   refine AL.noR ?_
   refine AL.ra ?_
   refine AL.nil ?_
   change AW _ _ _ _ _
   refine AW.seq ?_
   refine AW.region ?_
   refine AL.rm ?_
   refine AL.rm ?_
   refine AL.r (rd_iaddr_ow rfl el_83 rfl rfl rfl (n := 0) rfl (by omega)) ?_
   refine AL.r (rd_load_bo rfl ag_5 rfl rfl (i := 0) (j := 0) rfl hg0 rfl) ?_
   refine AL.r (rd_xor rfl rfl rfl (u8_xor_nat c0.toNat 1 (UInt8.toNat_lt c0) (by omega))) ?_
   refine AL.r (rd_iaddr_ow rfl el_83 rfl rfl rfl (n := 0) rfl (by omega)) ?_
   refine AL.op rfl (op_store_bo rfl rfl rfl rfl rfl rfl sz_5 (by simp only [List.length_cons, List.length_nil]; omega) ?_)
   refine AL.no ?_
   refine AL.nil ?_
   change AW _ _ _ _ _
   refine AW.seq ?_
   refine AW.region ?_
   refine AL.rm ?_
   refine AL.op rfl (calloR (rnum_c 1 (newR (putN 1 n) 1) (newR_ok (by omega) 1)) [0] ?_)
   rintro y os' ⟨rfl, rfl⟩
   refine AL.noR ?_
   refine AL.rm ?_
   refine AL.r (rd_bin rfl rfl rfl (fun _ => rfl)) ?_
   refine AL.ra ?_
   refine AL.nil ?_
   change AW _ _ _ _ _
   refine AW.ret ?_
   change ResA _ _ _ _ _
   refine res1 rfl (ResV.tmp rfl) rfl ?_
   rw [num_new hn]; simp
section
variable {H : Type} {enc : TypeId × Value → H} {W : World} {base b0 : Nat} {sp : Nat → Bool} {held : Bool} {r : Reach}
theorem op_Vec : OpT enc Try.prog W base sp held 58 (fun _ : VecD => True) VecD.cs := fun fuel cs x h => by
  obtain ⟨xs, m, _, _, hl, hxl, hi⟩ := DataW.trod_array Try.underlying58 h
  have hl : cs.length = 6 := hl.trans (by kernel_rfl)
  match cs, hl with
  | [c0, c1, c2, c3, c4, c5], _ =>
    have g : ∀ i, i < 6 → ∃ y, DataW.trod enc Try.prog W base sp held m 3 (([c0, c1, c2, c3, c4, c5].drop i).take 1) = some y := fun i hi' => by
      have h1 := hi i hi'
      rw [show Try.prog.cellsOf 3 = 1 by kernel_rfl, Nat.mul_one, List.getElem?_eq_getElem (by omega)] at h1
      exact ⟨_, h1⟩
    obtain ⟨y0, g0⟩ := g 0 (by omega)
    obtain ⟨y1, g1⟩ := g 1 (by omega)
    obtain ⟨y2, g2⟩ := g 2 (by omega)
    obtain ⟨y3, g3⟩ := g 3 (by omega)
    obtain ⟨y4, g4⟩ := g 4 (by omega)
    obtain ⟨y5, g5⟩ := g 5 (by omega)
    obtain ⟨d0, o0, r0⟩ := op_int Try.underlying3 _ _ _ g0
    obtain ⟨d1, o1, r1⟩ := op_int Try.underlying3 _ _ _ g1
    obtain ⟨d2, o2, r2⟩ := op_int Try.underlying3 _ _ _ g2
    obtain ⟨d3, o3, r3⟩ := op_int Try.underlying3 _ _ _ g3
    obtain ⟨d4, o4, r4⟩ := op_int Try.underlying3 _ _ _ g4
    obtain ⟨d5, o5, r5⟩ := op_int Try.underlying3 _ _ _ g5
    exact ⟨⟨d0, d1, d2, d3, d4, d5⟩, trivial, r0.app (r1.app (r2.app (r3.app (r4.app r5))))⟩
theorem op_Thing : OpT enc Try.prog W base sp held 79 (fun _ : ThingD => True) ThingD.cs := fun fuel cs x h => by
  obtain ⟨hl, hf⟩ := op_fields Try.underlying79 h
  have hl : cs.length = 16 := hl.trans (by kernel_rfl)
  match cs, hl with
  | [c0, c1, c2, c3, c4, c5, c6, c7, c8, c9, c10, c11, c12, c13, c14, c15], _ =>
    obtain ⟨n0, y0, g0⟩ := hf 0 _ 1 rfl (by kernel_rfl)
    obtain ⟨n1, y1, g1⟩ := hf 1 _ 1 rfl (by kernel_rfl)
    obtain ⟨n2, y2, g2⟩ := hf 2 _ 1 rfl (by kernel_rfl)
    obtain ⟨n3, y3, g3⟩ := hf 3 _ 1 rfl (by kernel_rfl)
    obtain ⟨n4, y4, g4⟩ := hf 4 _ 2 rfl (by kernel_rfl)
    obtain ⟨n5, y5, g5⟩ := hf 5 _ 6 rfl (by kernel_rfl)
    obtain ⟨n6, y6, g6⟩ := hf 6 _ 3 rfl (by kernel_rfl)
    obtain ⟨n7, y7, g7⟩ := hf 7 _ 1 rfl (by kernel_rfl)
    obtain ⟨d0, o0, r0⟩ := op_int Try.underlying3 _ _ _ g0
    obtain ⟨d1, o1, r1⟩ := op_int Try.underlying2 _ _ _ g1
    obtain ⟨d2, o2, r2⟩ := op_str Try.underlying9 _ _ _ g2
    obtain ⟨d3, o3, r3⟩ := op_bool Try.underlying4 _ _ _ g3
    obtain ⟨d4, o4, r4⟩ := op_TagW _ _ _ g4
    obtain ⟨d5, o5, r5⟩ := op_Vec _ _ _ g5
    obtain ⟨d6, o6, r6⟩ := op_Ref _ _ _ g6
    obtain ⟨d7, o7, r7⟩ := op_int Try.underlying3 _ _ _ g7
    exact ⟨⟨d0, d1, d2, d3, d4, d5, d6, d7⟩, trivial, r0.app (r1.app (r2.app (r3.app (r4.app (r5.app (r6.app r7))))))⟩
theorem open_Thing {v : Value} {d : DataW H} {p : List MemPlace} (hv : Value.okWide Try.prog W r b0 79 v) (h : DataW.Trod enc Try.prog W base sp held 79 v d p) : ∃ x : ThingD, True ∧ RepS AnyB W v x.av := by
  obtain ⟨vs, rfl, _⟩ := okWide_struct Try.underlying79 hv
  exact op_Thing.agg h
end
theorem walk_PenNil (w : World) (v0 : Value) (x0 : ThingD) (rp0 : RepS AnyB w v0 x0.av) (a1 : Int) (w1 : (Lit.int .i64 a1).wf = true) :
    Calls Try.prog 10 #[v0, .int .i64 a1] w fun e w' => e = .returned (.bool true) ∧ Below w.heap.size w w' :=
  (pennil_c x0 a1 (i64R_of w1)).law (vs := [v0, .int .i64 a1]) rfl (rep_cons rp0 (rep_cons (.sc _) rep_nil))
end Go.Proofs.Ytfjnkhanndkpfaa
