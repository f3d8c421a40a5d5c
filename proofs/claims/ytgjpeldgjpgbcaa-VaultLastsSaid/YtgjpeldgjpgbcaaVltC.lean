/- The vault is opened: walked over abstract states. -/
import Derived.Test.YtgjpeldgjpgbcaaVltB
namespace Go.Proofs.Ytgjpeldgjpgbcaa
set_option linter.unusedSimpArgs false
set_option linter.unusedVariables false
set_option maxRecDepth 100000
open Go.RowKit

/-- Which file the log lies in. -/
def vfile (e : Nat) : Nat := 2 + e % 2
theorem vfile_lt (e : Nat) : vfile e < 4 := by unfold vfile; omega
theorem vf_odd {e : Nat} (h : Int.tmod (e : Int) 2 = 1) : (3 : Int) = ((vfile e : Nat) : Int) := by
  have : Int.tmod (e : Int) 2 = (e : Int) % 2 := Int.tmod_eq_emod_of_nonneg (by omega)
  unfold vfile; omega
theorem vf_even {e : Nat} (h : ¬ Int.tmod (e : Int) 2 = 1) : (2 : Int) = ((vfile e : Nat) : Int) := by
  have : Int.tmod (e : Int) 2 = (e : Int) % 2 := Int.tmod_eq_emod_of_nonneg (by omega)
  unfold vfile; omega
theorem sepoch_v2 (g G : Nat) (t : Nat → Nat) (S : SltD) (d : DiskD) {v : Int} (h : S.epoch = v) : ACo Try.prog 51 [.bx 0 g 0] (SltT g G t S d) (fun y os' => y = .sc (.int .i64 v) ∧ os' = SltT g G t S d) := by
  subst h; exact sepoch_c g G t S d
section
variable {k : Nat} (t : Nat → Nat) (ht : ∀ i, i < 256 → t i < 4294967296) (d : DiskD) (hd : d.Ok k) (hk : k ≤ 900000) (G h1 h2 h3 : Nat)
include hd hk
theorem sopen_dk2 (f : Nat) (hf : f < 3) (hdk : d.dark = true) : ACo Try.prog 50 [.bx 0 G 0, .sc (tabV t), .sc (.int .i64 (f : Int))] [⟨G, .obj (DiskP d)⟩, ⟨h1, .off⟩] (fun y os => y = .tu [.sc (.pointer none), .sc (.int .i64 10)] ∧ os = [⟨G, .obj (DiskP d)⟩, ⟨h1 + 1, .box 119 (fatC [.bx 0 G 0] t [.sc (.int .i64 (f : Int)), .sc (.int .i64 1), .sc (.int .i64 0), .sl (byA []), .sc (.bool false)])⟩]) := by
  have hr : ACo Try.prog 25 [.bx 0 G 0, .sc (.int .i64 (f : Int))] [⟨G, .obj (DiskP d)⟩] (fun y os' => y = .tu [.sl (byA (rdB d f)), .sc (.int .i64 10)] ∧ os' = [⟨G, .obj (DiskP d)⟩]) := by
    have := ok_read2 hd (by omega) G f (by omega)
    have e : rdC d = 10 := by unfold rdC; rw [hdk]; rfl
    rwa [e] at this
  refine ACo.of' (st0 := [⟨G, .obj (DiskP d)⟩, ⟨h1, .off⟩, TK.mk 0 .off, TK.mk 0 .off]) 64 2 Try.func50 rfl 2 ?_
  refine AW.seq ?_
  refine AW.region ?_
  refine AL.op rfl (AOpB.op (op_tabbox 2 rfl rfl rfl ?_))
  refine AL.no ?_
  refine AL.ra ?_
  refine AL.ra ?_
  refine AL.nil ?_
  change AW _ _ _ _ _
  refine AW.seq ?_
  refine AW.seq ?_
  refine AW.region ?_
  refine AL.rm ?_
  refine AL.r (rd_peq_bx rfl pt_25 rfl rfl rfl) ?_
  refine AL.nil ?_
  change AW _ _ _ _ _
  refine AW.cond_f rfl ?_
  refine AW.skip ?_
  change AW _ _ _ _ _
  refine AW.seq ?_
  refine AW.seq ?_
  refine AW.region ?_
  refine AL.rm ?_
  refine AL.r (rd_bin rfl rfl rfl (fun _ => rfl)) ?_
  refine AL.rm ?_
  refine AL.fk (d := 18) rfl (fun h18 => ?_) (fun h18 => ?_)
  ·skip
   refine AL.n ?_
   refine AL.rf ?_
   refine AL.rf ?_
   refine AL.r (rd_pick_t rfl rfl rfl) ?_
   refine AL.nil ?_
   change AW _ _ _ _ _
   refine AW.cond_t rfl ?_
   refine AW.seq ?_
   omega
  ·skip
   refine AL.n ?_
   refine AL.ro (rd_move rfl rfl) ?_
   refine AL.ro (rd_bin rfl rfl rfl (fun _ => rfl)) ?_
   refine AL.r (rd_pick_f rfl rfl rfl) ?_
   refine AL.nil ?_
   change AW _ _ _ _ _
   refine AW.cd rfl (fun h21 => ?_) (fun h21 => ?_)
   ·skip
    refine AW.seq ?_
    omega
   ·skip
    refine AW.skip ?_
    change AW _ _ _ _ _
    refine AW.seq ?_
    refine AW.region ?_
    refine AL.rm ?_
    refine AL.r (rd_tab0 rfl ag_53 rfl rfl) ?_
    refine AL.rm ?_
    refine AL.r (rd_sltnew rfl rfl rfl rfl rfl rfl rfl) ?_
    refine AL.op rfl (AOpB.op (op_box 1 rfl rfl rfl rfl rfl ?_))
    refine AL.no ?_
    refine AL.ra ?_
    refine AL.nil ?_
    change AW _ _ _ _ _
    refine AW.seq ?_
    refine AW.seq ?_
    refine AW.region ?_
    refine AL.rm ?_
    refine AL.nil ?_
    change AW _ _ _ _ _
    refine AW.block ?_
    refine AW.unroll 3 ?_
    change AW _ _ _ _ _
    refine AW.seq ?_
    refine AW.region ?_
    refine AL.r (rd_bin rfl rfl rfl (fun _ => rfl)) ?_
    refine AL.nil ?_
    change AW _ _ _ _ _
    refine AW.seq ?_
    refine AW.cond_t rfl ?_
    refine AW.skip ?_
    change AW _ _ _ _ _
    refine AW.seq ?_
    refine AW.block ?_
    refine AW.seq ?_
    refine AW.region ?_
    refine AL.rm ?_
    refine AL.ra ?_
    refine AL.nil ?_
    change AW _ _ _ _ _
    refine AW.seq ?_
    refine AW.region ?_
    refine AL.rm ?_
    refine AL.rm ?_
    refine AL.rm ?_
    refine AL.r (rd_arith_add rfl rfl rfl ((IntWalk.i64_in _ (by omega)).trans (Int.add_zero _))) ?_
    refine AL.op rfl (calloF (hr) [0] ?_)
    rintro y os' ⟨rfl, rfl⟩
    refine AL.noF ?_
    refine AL.rm ?_
    refine AL.r (rd_extract rfl rfl rfl) ?_
    refine AL.r (rd_extract rfl rfl rfl) ?_
    refine AL.ra ?_
    refine AL.ra ?_
    refine AL.nil ?_
    change AW _ _ _ _ _
    refine AW.seq ?_
    refine AW.seq ?_
    refine AW.region ?_
    refine AL.rm ?_
    refine AL.r (rd_bin rfl rfl rfl (fun _ => rfl)) ?_
    refine AL.nil ?_
    change AW _ _ _ _ _
    refine AW.cond_t rfl ?_
    refine AW.seq ?_
    refine AW.region ?_
    refine AL.rm ?_
    refine AL.ra ?_
    refine AL.ra ?_
    refine AL.nil ?_
    change AW _ _ _ _ _
    refine AW.ret ?_
    repeat with_reducible first | refine thenA_ret ?_ | refine inBlockA_ret ?_
    with_reducible first | refine retO_ret ?_ | refine retO_normal ?_
    refine reso2F rfl (ResV.tmp rfl) rfl (ResV.tmp rfl) rfl ?_
    exact ⟨rfl, rfl⟩
theorem vopen_dk (hdk : d.dark = true) : ACo Try.prog 58 [.bx 0 G 0, .sc (tabV t)] [⟨G, .obj (DiskP d)⟩, ⟨h1, .off⟩] (fun y os => y = .tu [.sc (.pointer none), .sl [], .sc (.int .i64 10)] ∧ os = [⟨G, .obj (DiskP d)⟩, ⟨h1 + 1, .box 119 (fatC [.bx 0 G 0] t [.sc (.int .i64 ((0 : Nat) : Int)), .sc (.int .i64 1), .sc (.int .i64 0), .sl (byA []), .sc (.bool false)])⟩]) := by
  refine ACo.of' (st0 := [⟨G, .obj (DiskP d)⟩, ⟨h1, .off⟩, TK.mk 0 .off, TK.mk 0 .off]) 42 2 Try.func58 rfl 2 ?_
  refine AW.seq ?_
  refine AW.region ?_
  refine AL.op rfl (AOpB.op (op_tabbox 2 rfl rfl rfl ?_))
  refine AL.no ?_
  refine AL.ra ?_
  refine AL.ra ?_
  refine AL.ra ?_
  refine AL.nil ?_
  change AW _ _ _ _ _
  refine AW.seq ?_
  refine AW.region ?_
  refine AL.rm ?_
  refine AL.r (rd_tab0 rfl ag_53 rfl rfl) ?_
  refine AL.op rfl (calloZ (sopen_dk2 t d hd hk G h1 0 (by omega) hdk) [0, 1] ?_)
  rintro y os' ⟨rfl, rfl⟩
  refine AL.noZ ?_
  refine AL.rm ?_
  refine AL.r (rd_extract rfl rfl rfl) ?_
  refine AL.r (rd_extract rfl rfl rfl) ?_
  refine AL.ra ?_
  refine AL.ra ?_
  refine AL.nil ?_
  change AW _ _ _ _ _
  refine AW.seq ?_
  refine AW.seq ?_
  refine AW.region ?_
  refine AL.rm ?_
  refine AL.r (rd_bin rfl rfl rfl (fun _ => rfl)) ?_
  refine AL.nil ?_
  change AW _ _ _ _ _
  refine AW.cond_t rfl ?_
  refine AW.seq ?_
  refine AW.region ?_
  refine AL.rm ?_
  refine AL.ra ?_
  refine AL.ra ?_
  refine AL.ra ?_
  refine AL.nil ?_
  change AW _ _ _ _ _
  refine AW.ret ?_
  repeat with_reducible first | refine thenA_ret ?_ | refine inBlockA_ret ?_
  with_reducible first | refine retO_ret ?_ | refine retO_normal ?_
  refine reso3Z rfl (ResV.tmp rfl) rfl (ResV.tmp rfl) rfl (ResV.tmp rfl) rfl ?_
  exact ⟨rfl, rfl⟩
include ht
theorem vopen_ok (hdk : d.dark = false) {S : SltD} {e : Nat} (hS : openS t d 0 = S) (hfi : S.file = ((0 : Nat) : Int)) (hdn : S.down = false) (he : S.epoch = (e : Int)) (ho : openR t d (vfile e) = 0) : ACo Try.prog 58 [.bx 0 G 0, .sc (tabV t)] [⟨G, .obj (DiskP d)⟩, ⟨h1, .off⟩, ⟨h2, .off⟩, ⟨h3, .off⟩] (fun y os => y = .tu [.bx 3 (h3 + 1) 0, .sl (rowsA (scanN t (d.n (vfile e))).1), .sc (.int .i64 0)] ∧ os = [⟨G, .obj (DiskP (openD t d (vfile e)))⟩, ⟨h1 + 1, .box 119 (fatC [.bx 0 G 0] t [.sc (.int .i64 S.file), .sc (.int .i64 S.counts), .sc (.int .i64 S.epoch), .sl (byA S.bytes), .sc (.bool S.down)])⟩, ⟨h2 + 1, .box 111 (fatC [.bx 0 G 0] t [.sc (.int .i64 ((vfile e : Nat) : Int)), .sc (.bool false), .sc (.int .i64 (((scanN t (d.n (vfile e))).1.length : Nat) : Int)), .sc (.int .i64 (((scanN t (d.n (vfile e))).2 : Nat) : Int)), .sc (.int .i64 0)])⟩, ⟨h3 + 1, .box 126 (fatC [.bx 0 G 0] t [.bx 1 (h1 + 1) 0, .bx 2 (h2 + 1) 0, .sc (.int .i64 ((vfile e : Nat) : Int)), .sc (.bool false)])⟩]) := by
  refine ACo.of' (st0 := [⟨G, .obj (DiskP d)⟩, ⟨h1, .off⟩, ⟨h2, .off⟩, ⟨h3, .off⟩, TK.mk 0 .off, TK.mk 0 .off]) 42 2 Try.func58 rfl 4 ?_
  refine AW.seq ?_
  refine AW.region ?_
  refine AL.op rfl (AOpB.op (op_tabbox 4 rfl rfl rfl ?_))
  refine AL.no ?_
  refine AL.ra ?_
  refine AL.ra ?_
  refine AL.ra ?_
  refine AL.nil ?_
  change AW _ _ _ _ _
  refine AW.seq ?_
  refine AW.region ?_
  refine AL.rm ?_
  refine AL.r (rd_tab0 rfl ag_53 rfl rfl) ?_
  refine AL.op rfl (calloZ (sopen_v t ht d hd hk G h1 0 (by omega) hdk hS hfi hdn) [0, 1] ?_)
  rintro y os' ⟨rfl, rfl⟩
  refine AL.noZ ?_
  refine AL.rm ?_
  refine AL.r (rd_extract rfl rfl rfl) ?_
  refine AL.r (rd_extract rfl rfl rfl) ?_
  refine AL.ra ?_
  refine AL.ra ?_
  refine AL.nil ?_
  change AW _ _ _ _ _
  refine AW.seq ?_
  refine AW.seq ?_
  refine AW.region ?_
  refine AL.rm ?_
  refine AL.r (rd_bin rfl rfl rfl (fun _ => rfl)) ?_
  refine AL.nil ?_
  change AW _ _ _ _ _
  refine AW.cond_f rfl ?_
  refine AW.skip ?_
  change AW _ _ _ _ _
  refine AW.seq ?_
  refine AW.region ?_
  refine AL.ra ?_
  refine AL.nil ?_
  change AW _ _ _ _ _
  refine AW.join (ι := Int) [21, 22, 23, 24] (fun x => [(9, .sc (.int .i64 x))]) [] (fun x => []) (fun x => x = ((vfile e : Nat) : Int)) ?_ ?_
  ·skip
   refine AW.seq ?_
   refine AW.region ?_
   refine AL.rm ?_
   refine AL.op rfl (calloZ (sepoch_v2 (h1 + 1) G t S d he) [1, 0] ?_)
   rintro y os' ⟨rfl, rfl⟩
   refine AL.noZ ?_
   refine AL.r (rd_bin rfl rfl rfl (fun _ => rfl)) ?_
   refine AL.r (rd_bin rfl rfl rfl (fun _ => rfl)) ?_
   refine AL.nil ?_
   change AW _ _ _ _ _
   refine AW.cd rfl (fun h24 => ?_) (fun h24 => ?_)
   ·skip
    refine AW.region ?_
    refine AL.ra ?_
    refine AL.nil ?_
    refine ⟨3, vf_odd h24, (by simp only [anys, upds, offs, List.set_cons_zero, List.set_cons_succ]; repeat (first | exact Wk.nil | refine Wk.same ?_ | refine Wk.any ?_)), (by simp only [anys, upds, offs, List.set_cons_zero, List.set_cons_succ]; repeat (first | exact Sk.nil _ | refine Sk.same _ ?_ | refine Sk.scr _ (by decide) ?_))⟩
   ·skip
    refine AW.skip ?_
    refine ⟨2, vf_even h24, (by simp only [anys, upds, offs, List.set_cons_zero, List.set_cons_succ]; repeat (first | exact Wk.nil | refine Wk.same ?_ | refine Wk.any ?_)), (by simp only [anys, upds, offs, List.set_cons_zero, List.set_cons_succ]; repeat (first | exact Sk.nil _ | refine Sk.same _ ?_ | refine Sk.scr _ (by decide) ?_))⟩
  ·rintro x gs24 hJ24
   refine AW.norm (by simp only [anys, upds, offs, List.set_cons_zero, List.set_cons_succ]; rfl) (by (try simp only [anys, upds, offs, List.set_cons_zero, List.set_cons_succ]); (try rfl)) ?_
   (try dsimp only at hJ24)
   change AW _ _ _ _ _
   refine AW.seq ?_
   refine AW.region ?_
   subst hJ24
   refine AL.rm ?_
   refine AL.r (rd_tab0 rfl ag_53 rfl rfl) ?_
   refine AL.rm ?_
   refine AL.op rfl (calloZ (lopen_ok t ht d hd hk G h2 (vfile e) (vfile_lt e) ho) [0, 2] ?_)
   rintro y os' ⟨rfl, rfl⟩
   refine AL.noZ ?_
   refine AL.rm ?_
   refine AL.r (rd_extract rfl rfl rfl) ?_
   refine AL.r (rd_extract rfl rfl rfl) ?_
   refine AL.r (rd_extract rfl rfl rfl) ?_
   refine AL.ra ?_
   refine AL.ra ?_
   refine AL.ra ?_
   refine AL.nil ?_
   change AW _ _ _ _ _
   refine AW.seq ?_
   refine AW.seq ?_
   refine AW.region ?_
   refine AL.rm ?_
   refine AL.r (rd_bin rfl rfl rfl (fun _ => rfl)) ?_
   refine AL.nil ?_
   change AW _ _ _ _ _
   refine AW.cond_f rfl ?_
   refine AW.skip ?_
   change AW _ _ _ _ _
   refine AW.seq ?_
   refine AW.region ?_
   refine AL.rm ?_
   refine AL.r (rd_tab0 rfl ag_53 rfl rfl) ?_
   refine AL.rm ?_
   refine AL.rm ?_
   refine AL.rm ?_
   refine AL.r (rd_vltbuild rfl rfl rfl rfl rfl rfl rfl rfl rfl rfl rfl rfl) ?_
   refine AL.op rfl (AOpB.op (op_box 3 rfl rfl rfl rfl rfl ?_))
   refine AL.no ?_
   refine AL.rm ?_
   refine AL.ra ?_
   refine AL.ra ?_
   refine AL.ra ?_
   refine AL.nil ?_
   change AW _ _ _ _ _
   refine AW.ret ?_
   repeat with_reducible first | refine thenA_ret ?_ | refine inBlockA_ret ?_
   with_reducible first | refine retO_ret ?_ | refine retO_normal ?_
   refine reso3Z rfl (ResV.tmp rfl) (resO_bx (by decide) rfl) (ResV.tmp rfl) rfl (ResV.tmp rfl) rfl ?_
   exact ⟨rfl, rfl⟩
theorem vopen_no (hdk : d.dark = false) {S : SltD} {e : Nat} (hS : openS t d 0 = S) (hfi : S.file = ((0 : Nat) : Int)) (hdn : S.down = false) (he : S.epoch = (e : Int)) (ho : ¬ openR t d (vfile e) = 0) : ACo Try.prog 58 [.bx 0 G 0, .sc (tabV t)] [⟨G, .obj (DiskP d)⟩, ⟨h1, .off⟩, ⟨h2, .off⟩, ⟨h3, .off⟩] (fun y os => y = .tu [.sc (.pointer none), .sl [], .sc (.int .i64 (openR t d (vfile e)))] ∧ os = [⟨G, .obj (DiskP (openD t d (vfile e)))⟩, ⟨h1 + 1, .box 119 (fatC [.bx 0 G 0] t [.sc (.int .i64 S.file), .sc (.int .i64 S.counts), .sc (.int .i64 S.epoch), .sl (byA S.bytes), .sc (.bool S.down)])⟩, ⟨h2, .off⟩, ⟨h3, .off⟩]) := by
  refine ACo.of' (st0 := [⟨G, .obj (DiskP d)⟩, ⟨h1, .off⟩, ⟨h2, .off⟩, ⟨h3, .off⟩, TK.mk 0 .off, TK.mk 0 .off]) 42 2 Try.func58 rfl 4 ?_
  refine AW.seq ?_
  refine AW.region ?_
  refine AL.op rfl (AOpB.op (op_tabbox 4 rfl rfl rfl ?_))
  refine AL.no ?_
  refine AL.ra ?_
  refine AL.ra ?_
  refine AL.ra ?_
  refine AL.nil ?_
  change AW _ _ _ _ _
  refine AW.seq ?_
  refine AW.region ?_
  refine AL.rm ?_
  refine AL.r (rd_tab0 rfl ag_53 rfl rfl) ?_
  refine AL.op rfl (calloZ (sopen_v t ht d hd hk G h1 0 (by omega) hdk hS hfi hdn) [0, 1] ?_)
  rintro y os' ⟨rfl, rfl⟩
  refine AL.noZ ?_
  refine AL.rm ?_
  refine AL.r (rd_extract rfl rfl rfl) ?_
  refine AL.r (rd_extract rfl rfl rfl) ?_
  refine AL.ra ?_
  refine AL.ra ?_
  refine AL.nil ?_
  change AW _ _ _ _ _
  refine AW.seq ?_
  refine AW.seq ?_
  refine AW.region ?_
  refine AL.rm ?_
  refine AL.r (rd_bin rfl rfl rfl (fun _ => rfl)) ?_
  refine AL.nil ?_
  change AW _ _ _ _ _
  refine AW.cond_f rfl ?_
  refine AW.skip ?_
  change AW _ _ _ _ _
  refine AW.seq ?_
  refine AW.region ?_
  refine AL.ra ?_
  refine AL.nil ?_
  change AW _ _ _ _ _
  refine AW.join (ι := Int) [21, 22, 23, 24] (fun x => [(9, .sc (.int .i64 x))]) [] (fun x => []) (fun x => x = ((vfile e : Nat) : Int)) ?_ ?_
  ·skip
   refine AW.seq ?_
   refine AW.region ?_
   refine AL.rm ?_
   refine AL.op rfl (calloZ (sepoch_v2 (h1 + 1) G t S d he) [1, 0] ?_)
   rintro y os' ⟨rfl, rfl⟩
   refine AL.noZ ?_
   refine AL.r (rd_bin rfl rfl rfl (fun _ => rfl)) ?_
   refine AL.r (rd_bin rfl rfl rfl (fun _ => rfl)) ?_
   refine AL.nil ?_
   change AW _ _ _ _ _
   refine AW.cd rfl (fun h24 => ?_) (fun h24 => ?_)
   ·skip
    refine AW.region ?_
    refine AL.ra ?_
    refine AL.nil ?_
    refine ⟨3, vf_odd h24, (by simp only [anys, upds, offs, List.set_cons_zero, List.set_cons_succ]; repeat (first | exact Wk.nil | refine Wk.same ?_ | refine Wk.any ?_)), (by simp only [anys, upds, offs, List.set_cons_zero, List.set_cons_succ]; repeat (first | exact Sk.nil _ | refine Sk.same _ ?_ | refine Sk.scr _ (by decide) ?_))⟩
   ·skip
    refine AW.skip ?_
    refine ⟨2, vf_even h24, (by simp only [anys, upds, offs, List.set_cons_zero, List.set_cons_succ]; repeat (first | exact Wk.nil | refine Wk.same ?_ | refine Wk.any ?_)), (by simp only [anys, upds, offs, List.set_cons_zero, List.set_cons_succ]; repeat (first | exact Sk.nil _ | refine Sk.same _ ?_ | refine Sk.scr _ (by decide) ?_))⟩
  ·rintro x gs24 hJ24
   refine AW.norm (by simp only [anys, upds, offs, List.set_cons_zero, List.set_cons_succ]; rfl) (by (try simp only [anys, upds, offs, List.set_cons_zero, List.set_cons_succ]); (try rfl)) ?_
   (try dsimp only at hJ24)
   change AW _ _ _ _ _
   refine AW.seq ?_
   refine AW.region ?_
   subst hJ24
   refine AL.rm ?_
   refine AL.r (rd_tab0 rfl ag_53 rfl rfl) ?_
   refine AL.rm ?_
   refine AL.op rfl (calloZ (lopen_no t ht d hd hk G h2 (vfile e) (vfile_lt e) ho) [0, 2] ?_)
   rintro y os' ⟨rfl, rfl⟩
   refine AL.noZ ?_
   refine AL.rm ?_
   refine AL.r (rd_extract rfl rfl rfl) ?_
   refine AL.r (rd_extract rfl rfl rfl) ?_
   refine AL.r (rd_extract rfl rfl rfl) ?_
   refine AL.ra ?_
   refine AL.ra ?_
   refine AL.ra ?_
   refine AL.nil ?_
   change AW _ _ _ _ _
   refine AW.seq ?_
   refine AW.seq ?_
   refine AW.region ?_
   refine AL.rm ?_
   refine AL.r (rd_bin rfl rfl rfl (fun _ => rfl)) ?_
   refine AL.nil ?_
   change AW _ _ _ _ _
   refine AW.cd rfl (fun h34 => ?_) (fun h34 => ?_)
   ·skip
    refine AW.seq ?_
    refine AW.region ?_
    refine AL.rm ?_
    refine AL.ra ?_
    refine AL.ra ?_
    refine AL.ra ?_
    refine AL.nil ?_
    change AW _ _ _ _ _
    refine AW.ret ?_
    repeat with_reducible first | refine thenA_ret ?_ | refine inBlockA_ret ?_
    with_reducible first | refine retO_ret ?_ | refine retO_normal ?_
    refine reso3Z rfl (ResV.tmp rfl) rfl (ResV.tmp rfl) rfl (ResV.tmp rfl) rfl ?_
    exact ⟨rfl, rfl⟩
   ·skip
    refine AW.skip ?_
    change AW _ _ _ _ _
    refine AW.seq ?_
    exact absurd h34 ho
end
end Go.Proofs.Ytgjpeldgjpgbcaa
