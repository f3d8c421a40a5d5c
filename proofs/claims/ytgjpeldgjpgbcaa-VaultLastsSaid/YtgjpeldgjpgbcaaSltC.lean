/- Slots as tickets: what is framed, written and put, walked over abstract states. -/
import Derived.Test.YtgjpeldgjpgbcaaSltB
namespace Go.Proofs.Ytgjpeldgjpgbcaa
set_option linter.unusedSimpArgs false
set_option linter.unusedVariables false
set_option maxRecDepth 100000
open Go.RowKit

/-- A snapshot of an epoch, as the bytes that are framed. -/
def snapN (e : Nat) (b : List UInt8) : List UInt8 := leB 8 e ++ b
theorem snapN_len (e : Nat) (b : List UInt8) : (snapN e b).length = 8 + b.length := by unfold snapN; rw [List.length_append, leB_len]
theorem leB8_one {u k : Nat} (h : k < 8) : byA ((leB 8 u).take (k + 1)) = byA ((leB 8 u).take k) ++ [[.sc (.int .u8 ((u / 2 ^ (8 * k) % 256 : Nat) : Int))]] := by
  rw [leB_take u k h, show (256 : Nat) = 2 ^ 8 from rfl, ← Nat.pow_mul]
  simp only [byA, List.map_append, List.map_cons, List.map_nil, bv]
  rw [byteOf_toNat (Nat.mod_lt _ (by decide))]
theorem fput3 (t : Nat → Nat) (ht : ∀ i, i < 256 → t i < 4294967296) (b : List UInt8) (h : b.length ≤ 60000) : AC Try.prog 79 [.sl (byA []), .sc (tabV t), .sl (byA b)] (fun r => r = .s (.tu [.sl (byA (frameN t b)), .sc (.int .i64 0)])) :=
  (fput2 t ht b).mono fun r hr => by
    rw [hr]
    unfold pB pC
    rw [if_neg (by omega), if_neg (by omega)]
def wrR (d : DiskD) (f : Nat) (b : List UInt8) : Int := if cutR d f 0 = 0 then (if appR (cutD d f 0) b = 0 then syncR (appD (cutD d f 0) f b) else appR (cutD d f 0) b) else cutR d f 0
def wrD (d : DiskD) (f : Nat) (b : List UInt8) : DiskD := if cutR d f 0 = 0 then (if appR (cutD d f 0) b = 0 then syncD (appD (cutD d f 0) f b) else appD (cutD d f 0) f b) else cutD d f 0
theorem appD_Ok {k : Nat} {d : DiskD} (h : d.Ok k) {f : Nat} (hf : f < 4) (b : List UInt8) : (appD d f b).Ok (k + 1) := by
  have := h.app (f : Int) b
  unfold appDi at this
  rwa [if_pos (by omega), Int.toNat_natCast] at this
theorem wrD_Ok {k : Nat} {d : DiskD} (h : d.Ok k) {f : Nat} (hf : f < 4) (b : List UInt8) : (wrD d f b).Ok (k + 2) := by
  have h1 := cutD_Ok h hf 0
  have h2 := appD_Ok h1 hf b
  unfold wrD
  repeat' split
  · exact h2.sync
  · exact h2
  · exact h1.mono (by omega)
section
variable {k : Nat} {d : DiskD} (h : d.Ok k) (hk : k ≤ 1000000) (G : Nat) (f : Nat) (hf : f < 4)
include h hk hf
theorem ok_app2 (b : List UInt8) (hb : b.length ≤ 1099511627776) : ACo Try.prog 19 [.bx 0 G 0, .sc (.int .i64 (f : Int)), .sl (byA b)] [⟨G, .obj (DiskP d)⟩] (fun y os' => y = .sc (.int .i64 (appR d b)) ∧ os' = [⟨G, .obj (DiskP (appD d f b))⟩]) := by
  have := ok_append h hk G (f : Int) b hb
  unfold appRi appDi at this
  rwa [if_pos (by omega), if_pos (by omega), Int.toNat_natCast] at this
end
section
variable (g G : Nat) (t : Nat → Nat) (ht : ∀ i, i < 256 → t i < 4294967296) (S : SltD) {k : Nat} (d : DiskD) (hd : d.Ok k) (hk : k ≤ 900000)
theorem sepoch_c : ACo Try.prog 51 [.bx 0 g 0] (SltT g G t S d) (fun y os' => y = .sc (.int .i64 S.epoch) ∧ os' = SltT g G t S d) := by
  refine ACo.of' (st0 := [⟨g, .box 119 (fatC [.bx 1 G 0] t [.sc (.int .i64 S.file), .sc (.int .i64 S.counts), .sc (.int .i64 S.epoch), .sl (byA S.bytes), .sc (.bool S.down)])⟩, ⟨G, .obj (DiskP d)⟩]) 8 0 Try.func51 rfl 2 ?_
  refine AW.seq ?_
  refine AW.region ?_
  refine AL.ra ?_
  refine AL.nil ?_
  change AW _ _ _ _ _
  refine AW.seq ?_
  refine AW.seq ?_
  refine AW.region ?_
  refine AL.rm ?_
  refine AL.r (rd_peq_bx rfl pt_70 rfl rfl rfl) ?_
  refine AL.nil ?_
  change AW _ _ _ _ _
  refine AW.cond_f rfl ?_
  refine AW.skip ?_
  change AW _ _ _ _ _
  refine AW.seq ?_
  refine AW.region ?_
  refine AL.rm ?_
  refine AL.r (rd_nilc_bx rfl rfl rfl) ?_
  refine AL.r (rd_faddr_bx rfl fo_119_4 rfl rfl ⟨_, _, rfl⟩) ?_
  refine AL.r (rd_load_bx rfl ag_2 rfl rfl (fat_post 2 rfl rfl)) ?_
  refine AL.ra ?_
  refine AL.nil ?_
  change AW _ _ _ _ _
  refine AW.ret ?_
  repeat with_reducible first | refine thenA_ret ?_ | refine inBlockA_ret ?_
  with_reducible first | refine retO_ret ?_ | refine retO_normal ?_
  refine reso1Z rfl (ResV.tmp rfl) rfl ?_
  exact ⟨rfl, rfl⟩
theorem sbytes_c (hb : S.bytes.length ≤ 1099511627776) : ACo Try.prog 52 [.bx 0 g 0] (SltT g G t S d) (fun y os' => y = .sl (byA S.bytes) ∧ os' = SltT g G t S d) := by
  refine ACo.of' (st0 := [⟨g, .box 119 (fatC [.bx 1 G 0] t [.sc (.int .i64 S.file), .sc (.int .i64 S.counts), .sc (.int .i64 S.epoch), .sl (byA S.bytes), .sc (.bool S.down)])⟩, ⟨G, .obj (DiskP d)⟩, TK.mk 0 .off, TK.mk 0 .off]) 10 2 Try.func52 rfl 2 ?_
  refine AW.seq ?_
  refine AW.region ?_
  refine AL.ra ?_
  refine AL.nil ?_
  change AW _ _ _ _ _
  refine AW.seq ?_
  refine AW.seq ?_
  refine AW.region ?_
  refine AL.rm ?_
  refine AL.r (rd_peq_bx rfl pt_70 rfl rfl rfl) ?_
  refine AL.nil ?_
  change AW _ _ _ _ _
  refine AW.cond_f rfl ?_
  refine AW.skip ?_
  change AW _ _ _ _ _
  refine AW.seq ?_
  refine AW.region ?_
  refine AL.op rfl (AOpB.op (bs_own 2 rfl ap_29 ze_5 rfl rfl rfl ?_))
  refine AL.no ?_
  refine AL.rm ?_
  refine AL.r (rd_nilc_bx rfl rfl rfl) ?_
  refine AL.r (rd_faddr_bx rfl fo_119_5 rfl rfl ⟨_, _, rfl⟩) ?_
  refine AL.r (rd_load_bx rfl ag_29 rfl rfl (fat_post 3 rfl rfl)) ?_
  refine AL.op rfl (op_append rfl ap_29 rfl rfl (src_s rfl) (by simp only [byA_len, List.length_nil]; omega) (by simp only [byA_len, List.length_nil]; omega) ?_)
  refine AL.no ?_
  refine AL.ra ?_
  refine AL.nil ?_
  change AW _ _ _ _ _
  refine AW.ret ?_
  repeat with_reducible first | refine thenA_ret ?_ | refine inBlockA_ret ?_
  with_reducible first | refine retO_ret ?_ | refine retO_normal ?_
  refine reso1Z rfl (ResV.tmp rfl) (by first | exact resO_owM (by decide) rfl | exact resO_own (by decide) rfl | exact resO_set (by decide) rfl | exact resO_setM (by decide) rfl) ?_
  exact ⟨rfl, rfl⟩
include ht
theorem sframe_c (b : List UInt8) (hb : b.length ≤ 59992) (e : Nat) (he : S.epoch = (e : Int)) (he2 : e < 4611686018427387904) : ACo Try.prog 87 [.bx 0 g 0, .sl (byA b)] (SltT g G t S d) (fun y os' => y = .sl (byA (frameN t (snapN (e + 1) b))) ∧ os' = SltT g G t S d) := by
  refine ACo.of' (st0 := [⟨g, .box 119 (fatC [.bx 1 G 0] t [.sc (.int .i64 S.file), .sc (.int .i64 S.counts), .sc (.int .i64 S.epoch), .sl (byA S.bytes), .sc (.bool S.down)])⟩, ⟨G, .obj (DiskP d)⟩, TK.mk 0 .off, TK.mk 0 .off, TK.mk 0 .off, TK.mk 0 .off]) 42 4 Try.func87 rfl 2 ?_
  refine AW.seq ?_
  refine AW.region ?_
  refine AL.ra ?_
  refine AL.nil ?_
  change AW _ _ _ _ _
  refine AW.seq ?_
  refine AW.region ?_
  refine AL.rm ?_
  refine AL.r (rd_len_sl rfl el_29 rfl) ?_
  refine AL.r (rd_arith_add rfl rfl rfl (by first | exact IntWalk.i64_in _ (by omega) | rfl)) ?_
  refine AL.op rfl (AOpB.op (op_make0 2 rfl ap_29 rfl rfl (show _ = ((8 + b.length : Nat) : Int) by omega) (by omega) (by omega) rfl ?_))
  refine AL.no ?_
  refine AL.ra ?_
  refine AL.nil ?_
  change AW _ _ _ _ _
  refine AW.seq ?_
  refine AW.region ?_
  refine AL.rm ?_
  refine AL.r (rd_nilc_bx rfl rfl rfl) ?_
  refine AL.r (rd_faddr_bx rfl fo_119_4 rfl rfl ⟨_, _, rfl⟩) ?_
  refine AL.r (rd_load_bx rfl ag_2 rfl rfl (fat_post 2 rfl rfl)) ?_
  rw [he]
  refine AL.r (rd_conv_int rfl iss_2 ik_117 rfl (wrap_u64 e (by omega))) ?_
  refine AL.r (rd_arith_add rfl rfl rfl (wrap_u64 (e + 1) (by omega))) ?_
  refine AL.ra ?_
  refine AL.nil ?_
  change AW _ _ _ _ _
  refine AW.seq ?_
  refine AW.seq ?_
  refine AW.region ?_
  refine AL.rm ?_
  refine AL.nil ?_
  change AW _ _ _ _ _
  refine AW.block ?_
  refine AW.loopM (ι := Nat × Nat) [7, 21, 22, 23, 24, 25, 26, 27, 28, 29, 30, 31] (fun ⟨j, q⟩ => [(20, .sc (.int .i64 (j : Int))), (5, .ow 2 q)]) [3, 4] (fun ⟨j, q⟩ => [(2, ⟨q, .own 5 1 (byA ((leB 8 (e + 1)).take j))⟩)]) (fun ⟨j, q⟩ => j ≤ 8) (fun ⟨j, q⟩ => 8 - j) (0, 1) (Nat.zero_le _) (by simp only [anys, upds, offs, List.set_cons_zero, List.set_cons_succ]; repeat (first | exact Wk.nil | refine Wk.same ?_ | refine Wk.any ?_)) (by simp only [anys, upds, offs, List.set_cons_zero, List.set_cons_succ]; repeat (first | exact Sk.nil _ | refine Sk.same _ ?_ | refine Sk.scr _ (by decide) ?_ | refine Sk.eq _ (by rfl) ?_)) ?_
  rintro ⟨j, q⟩ gs hJ
  refine AW.norm (by simp only [anys, upds, offs, List.set_cons_zero, List.set_cons_succ]; rfl) (by (try simp only [anys, upds, offs, List.set_cons_zero, List.set_cons_succ]); (try rfl)) ?_
  refine AW.seq ?_
  refine AW.region ?_
  refine AL.r (rd_bin rfl rfl rfl (fun _ => rfl)) ?_
  refine AL.nil ?_
  change AW _ _ _ _ _
  refine AW.seq ?_
  refine AW.cd rfl (fun h21 => ?_) (fun h21 => ?_)
  ·skip
   refine AW.skip ?_
   change AW _ _ _ _ _
   refine AW.seq ?_
   refine AW.block ?_
   refine AW.seq ?_
   refine AW.region ?_
   refine AL.rm ?_
   refine AL.ra ?_
   refine AL.nil ?_
   change AW _ _ _ _ _
   refine AW.region ?_
   refine AL.rm ?_
   refine AL.rm ?_
   refine AL.rm ?_
   refine AL.r (rd_arith_mul rfl rfl rfl (by first | exact IntWalk.i64_in _ (by omega) | rfl)) ?_
   refine AL.r (rd_shr (c := 8 * j) rfl rfl rfl rfl (by omega) (by show _ ≤ 64; omega) (rfl)) ?_
   refine AL.r (rd_conv_int rfl iss_117 ik_5 rfl (wrap_u8 _)) ?_
   refine AL.op rfl (AOpB.op (bs_set rfl ap_29 ze_5 rfl rfl ?_))
   refine AL.no ?_
   refine AL.op rfl (op_append rfl ap_29 rfl rfl (src_s rfl) (by simp only [byA_len, List.length_take, leB_len, List.length_cons, List.length_nil]; omega) (by simp only [byA_len, List.length_take, leB_len, List.length_cons, List.length_nil]; omega) ?_)
   refine AL.no ?_
   refine AL.ra ?_
   refine AL.nil ?_
   change AW _ _ _ _ _
   refine AW.region ?_
   refine AL.r (rd_arith_add rfl rfl rfl (by first | exact IntWalk.i64_in _ (by omega) | rfl)) ?_
   refine AL.rm ?_
   refine AL.nil ?_
   refine ⟨(j + 1, q + 1), ?_, by first | omega | (simp only []; omega), ?_, ?_⟩
   ·show j + 1 ≤ 8; omega
   ·simp only [anys, upds, offs, List.set_cons_zero, List.set_cons_succ]; repeat (first | exact Wk.nil | refine Wk.same ?_ | refine Wk.any ?_)
   ·simp only [anys, upds, offs, List.set_cons_zero, List.set_cons_succ]; repeat (first | exact Sk.nil _ | refine Sk.same _ ?_ | refine Sk.scr _ (by decide) ?_ | refine Sk.eq _ (by rw [leB8_one (by omega)]) ?_)
  ·skip
   refine AW.exit ?_
   change AW _ _ _ _ _
   refine AW.seq ?_
   refine AW.drawA (by kernel_rfl) ?_
   rw [show (leB 8 (e + 1)).take j = leB 8 (e + 1) from List.take_of_length_le (by rw [leB_len]; omega)]
   refine ADA.r 0 rfl (ARdP.a (rdP_move rfl rfl)) rfl ?_
   refine ADA.r 1 rfl (ARdP.a (rdP_nilc_bx rfl rfl rfl)) rfl ?_
   refine ADA.r 2 rfl (ARdP.a (rdP_faddr_bx rfl fo_119_1 rfl rfl ⟨_, _, rfl⟩)) rfl ?_
   refine ADA.r 4 rfl (ARdP.a (rdP_move rfl rfl)) rfl ?_
   refine ADA.r 5 rfl (ARdP.a (rdP_move rfl rfl)) rfl ?_
   refine ADA.b ?_
   refine ADB.all (is := [3, 6]) (by kernel_rfl) (by simp) ?_
   intro i hi
   simp only [List.mem_cons, List.not_mem_nil, or_false] at hi
   rcases hi with rfl | rfl
   ·skip
    refine ⟨_, rfl, rfl, AOpB.op (ARd.opB (rd_fat_tab rfl ag_53 rfl rfl rfl) ?_)⟩
    refine ADB.n ?_
    refine ADB.mv 6 rfl (op_append rfl ap_29 rfl rfl (src_s rfl) (by simp only [byA_len, leB_len]; omega) (by simp only [byA_len, leB_len]; omega) ?_)
    refine ADB.n ?_
    refine ADB.settle 39 rfl rfl (by first | rfl | exact cont_owM _ _ _ _) ?_
    refine ADB.n ?_
    refine ADB.mv 7 rfl (AOpB.op (op_call (fput3 t ht (snapN (e + 1) b) (by rw [snapN_len]; omega)) rfl (by kernel_rfl) rfl (none) ?_))
    rintro r rfl
    refine ADB.n ?_
    refine ADB.r 8 rfl (rdP_move rfl rfl) rfl ?_
    refine ADB.r 9 rfl (rdP_extract rfl rfl rfl) rfl ?_
    refine ADB.r 10 rfl (rdP_extract rfl rfl rfl) rfl ?_
    refine ADB.r 11 rfl (rdP_assign rfl rfl) rfl ?_
    refine ADB.r 12 rfl (rdP_assign rfl rfl) rfl ?_
    refine ADB.done (by kernel_rfl) ?_
    change AW _ _ _ _ _
    refine AW.seq ?_
    refine AW.region ?_
    refine AL.rm ?_
    refine AL.ra ?_
    refine AL.nil ?_
    change AW _ _ _ _ _
    refine AW.ret ?_
    repeat with_reducible first | refine thenA_ret ?_ | refine inBlockA_ret ?_
    with_reducible first | refine retO_ret ?_ | refine retO_normal ?_
    refine reso1Z rfl (ResV.tmp rfl) rfl ?_
    exact ⟨rfl, by unfold SltT; rw [he]; rfl⟩
   ·skip
    refine ⟨_, rfl, rfl, op_append rfl ap_29 rfl rfl (src_s rfl) (by simp only [byA_len, leB_len]; omega) (by simp only [byA_len, leB_len]; omega) ?_⟩
    refine ADB.n ?_
    refine ADB.mv 3 rfl (AOpB.op (ARd.opB (rd_fat_tab rfl ag_53 rfl rfl rfl) ?_))
    refine ADB.n ?_
    refine ADB.settle 39 rfl rfl (by first | rfl | exact cont_owM _ _ _ _) ?_
    refine ADB.n ?_
    refine ADB.mv 7 rfl (AOpB.op (op_call (fput3 t ht (snapN (e + 1) b) (by rw [snapN_len]; omega)) rfl (by kernel_rfl) rfl (none) ?_))
    rintro r rfl
    refine ADB.n ?_
    refine ADB.r 8 rfl (rdP_move rfl rfl) rfl ?_
    refine ADB.r 9 rfl (rdP_extract rfl rfl rfl) rfl ?_
    refine ADB.r 10 rfl (rdP_extract rfl rfl rfl) rfl ?_
    refine ADB.r 11 rfl (rdP_assign rfl rfl) rfl ?_
    refine ADB.r 12 rfl (rdP_assign rfl rfl) rfl ?_
    refine ADB.done (by kernel_rfl) ?_
    change AW _ _ _ _ _
    refine AW.seq ?_
    refine AW.region ?_
    refine AL.rm ?_
    refine AL.ra ?_
    refine AL.nil ?_
    change AW _ _ _ _ _
    refine AW.ret ?_
    repeat with_reducible first | refine thenA_ret ?_ | refine inBlockA_ret ?_
    with_reducible first | refine retO_ret ?_ | refine retO_normal ?_
    refine reso1Z rfl (ResV.tmp rfl) rfl ?_
    exact ⟨rfl, by unfold SltT; rw [he]; rfl⟩
omit ht in
include hd hk in
theorem swrite_c (f : Nat) (hf : f < 4) (b : List UInt8) (hb : b.length ≤ 1000000) : ACo Try.prog 86 [.bx 0 g 0, .sc (.int .i64 (f : Int)), .sl (byA b)] (SltT g G t S d) (fun y os' => y = .sc (.int .i64 (wrR d f b)) ∧ os' = SltT g G t S (wrD d f b)) := by
  refine ACo.of' (st0 := [⟨g, .box 119 (fatC [.bx 1 G 0] t [.sc (.int .i64 S.file), .sc (.int .i64 S.counts), .sc (.int .i64 S.epoch), .sl (byA S.bytes), .sc (.bool S.down)])⟩, ⟨G, .obj (DiskP d)⟩]) 30 0 Try.func86 rfl 2 ?_
  refine AW.seq ?_
  refine AW.region ?_
  refine AL.ra ?_
  refine AL.nil ?_
  change AW _ _ _ _ _
  refine AW.seq ?_
  refine AW.seq ?_
  refine AW.region ?_
  refine AL.rm ?_
  refine AL.r (rd_nilc_bx rfl rfl rfl) ?_
  refine AL.r (rd_faddr_bx rfl fo_119_0 rfl rfl ⟨_, _, rfl⟩) ?_
  refine AL.r (rd_load_bx rfl ag_25 rfl rfl (fat_pre rfl)) ?_
  refine AL.rm ?_
  refine AL.op rfl (calloZ (ok_cut2 hd (by omega) G f hf 0) [1] ?_)
  rintro y os' ⟨rfl, rfl⟩
  refine AL.noZ ?_
  refine AL.ra ?_
  refine AL.nil ?_
  change AW _ _ _ _ _
  refine AW.seq ?_
  refine AW.region ?_
  refine AL.rm ?_
  refine AL.r (rd_bin rfl rfl rfl (fun _ => rfl)) ?_
  refine AL.nil ?_
  change AW _ _ _ _ _
  refine AW.cd rfl (fun h16 => ?_) (fun h16 => ?_)
  ·skip
   refine AW.seq ?_
   refine AW.region ?_
   refine AL.rm ?_
   refine AL.ra ?_
   refine AL.nil ?_
   change AW _ _ _ _ _
   refine AW.ret ?_
   repeat with_reducible first | refine thenA_ret ?_ | refine inBlockA_ret ?_
   with_reducible first | refine retO_ret ?_ | refine retO_normal ?_
   refine reso1Z rfl (ResV.tmp rfl) rfl ?_
   exact ⟨by unfold wrR; rw [if_neg h16], by unfold wrD; rw [if_neg h16]; rfl⟩
  ·skip
   refine AW.skip ?_
   change AW _ _ _ _ _
   refine AW.seq ?_
   refine AW.seq ?_
   refine AW.region ?_
   refine AL.rm ?_
   refine AL.r (rd_nilc_bx rfl rfl rfl) ?_
   refine AL.r (rd_faddr_bx rfl fo_119_0 rfl rfl ⟨_, _, rfl⟩) ?_
   refine AL.r (rd_load_bx rfl ag_25 rfl rfl (fat_pre rfl)) ?_
   refine AL.rm ?_
   refine AL.rm ?_
   refine AL.op rfl (calloZ (ok_app2 (cutD_Ok hd hf 0) (by omega) G f hf b (by omega)) [1] ?_)
   rintro y os' ⟨rfl, rfl⟩
   refine AL.noZ ?_
   refine AL.ra ?_
   refine AL.nil ?_
   change AW _ _ _ _ _
   refine AW.seq ?_
   refine AW.region ?_
   refine AL.rm ?_
   refine AL.r (rd_bin rfl rfl rfl (fun _ => rfl)) ?_
   refine AL.nil ?_
   change AW _ _ _ _ _
   refine AW.cd rfl (fun h26 => ?_) (fun h26 => ?_)
   ·skip
    refine AW.seq ?_
    refine AW.region ?_
    refine AL.rm ?_
    refine AL.ra ?_
    refine AL.nil ?_
    change AW _ _ _ _ _
    refine AW.ret ?_
    repeat with_reducible first | refine thenA_ret ?_ | refine inBlockA_ret ?_
    with_reducible first | refine retO_ret ?_ | refine retO_normal ?_
    refine reso1Z rfl (ResV.tmp rfl) rfl ?_
    exact ⟨by unfold wrR; rw [if_pos h16, if_neg h26], by unfold wrD; rw [if_pos h16, if_neg h26]; rfl⟩
   ·skip
    refine AW.skip ?_
    change AW _ _ _ _ _
    refine AW.seq ?_
    refine AW.region ?_
    refine AL.rm ?_
    refine AL.r (rd_nilc_bx rfl rfl rfl) ?_
    refine AL.r (rd_faddr_bx rfl fo_119_0 rfl rfl ⟨_, _, rfl⟩) ?_
    refine AL.r (rd_load_bx rfl ag_25 rfl rfl (fat_pre rfl)) ?_
    refine AL.op rfl (calloZ (ok_sync (appD_Ok (cutD_Ok hd hf 0) hf b) (by omega) G) [1] ?_)
    rintro y os' ⟨rfl, rfl⟩
    refine AL.noZ ?_
    refine AL.ra ?_
    refine AL.nil ?_
    change AW _ _ _ _ _
    refine AW.ret ?_
    repeat with_reducible first | refine thenA_ret ?_ | refine inBlockA_ret ?_
    with_reducible first | refine retO_ret ?_ | refine retO_normal ?_
    refine reso1Z rfl (ResV.tmp rfl) rfl ?_
    exact ⟨by unfold wrR; rw [if_pos h16, if_pos h26], by unfold wrD; rw [if_pos h16, if_pos h26]; rfl⟩
end
/-- Which slot, which number. -/
structure SltD.At (S : SltD) (f c e : Nat) : Prop where
  file : S.file = (f : Int)
  counts : S.counts = (c : Int)
  epoch : S.epoch = (e : Int)
  f3 : f < 3
  c2 : c < 2
  le : e ≤ 4611686018427387904
def sputR (t : Nat → Nat) (S : SltD) (d : DiskD) (f c e : Nat) (b : List UInt8) : Int := if (S.down || d.dark) = true then 10 else if 59992 < b.length then 14 else if 4611686018427387904 ≤ e then 3 else wrR d (f + (1 - c)) (frameN t (snapN (e + 1) b))
def sputS (t : Nat → Nat) (S : SltD) (d : DiskD) (f c e : Nat) (b : List UInt8) : SltD := if (S.down || d.dark) = true then { S with down := true } else if 59992 < b.length then S else if 4611686018427387904 ≤ e then S else if wrR d (f + (1 - c)) (frameN t (snapN (e + 1) b)) = 0 then { S with counts := ((1 - c : Nat) : Int), epoch := ((e + 1 : Nat) : Int), bytes := b } else { S with down := decide (wrR d (f + (1 - c)) (frameN t (snapN (e + 1) b)) = 10) }
def sputD (t : Nat → Nat) (S : SltD) (d : DiskD) (f c e : Nat) (b : List UInt8) : DiskD := if (S.down || d.dark) = true then d else if 59992 < b.length then d else if 4611686018427387904 ≤ e then d else wrD d (f + (1 - c)) (frameN t (snapN (e + 1) b))
section
variable {t : Nat → Nat} {S : SltD} {d : DiskD} {f c e : Nat} {b : List UInt8}
theorem put_dn (h : (S.down || d.dark) = true) : sputR t S d f c e b = 10 ∧ sputS t S d f c e b = { S with down := true } ∧ sputD t S d f c e b = d := by unfold sputR sputS sputD; simp only [if_pos h, and_self]
theorem put_long (h : ¬ (S.down || d.dark) = true) (h2 : 59992 < b.length) : sputR t S d f c e b = 14 ∧ sputS t S d f c e b = S ∧ sputD t S d f c e b = d := by unfold sputR sputS sputD; simp only [if_neg h, if_pos h2, and_self]
theorem put_over (h : ¬ (S.down || d.dark) = true) (h2 : ¬ 59992 < b.length) (h3 : 4611686018427387904 ≤ e) : sputR t S d f c e b = 3 ∧ sputS t S d f c e b = S ∧ sputD t S d f c e b = d := by unfold sputR sputS sputD; simp only [if_neg h, if_neg h2, if_pos h3, and_self]
theorem put_go (h : ¬ (S.down || d.dark) = true) (h2 : ¬ 59992 < b.length) (h3 : ¬ 4611686018427387904 ≤ e) : sputR t S d f c e b = wrR d (f + (1 - c)) (frameN t (snapN (e + 1) b)) ∧ sputS t S d f c e b = (if wrR d (f + (1 - c)) (frameN t (snapN (e + 1) b)) = 0 then { S with counts := ((1 - c : Nat) : Int), epoch := ((e + 1 : Nat) : Int), bytes := b } else { S with down := decide (wrR d (f + (1 - c)) (frameN t (snapN (e + 1) b)) = 10) }) ∧ sputD t S d f c e b = wrD d (f + (1 - c)) (frameN t (snapN (e + 1) b)) := by unfold sputR sputS sputD; simp only [if_neg h, if_neg h2, if_neg h3, and_self]
end
section
variable (g G : Nat) (t : Nat → Nat) (ht : ∀ i, i < 256 → t i < 4294967296) (S : SltD) {k : Nat} (d : DiskD) (hd : d.Ok k) (hk : k ≤ 900000)
include ht hd hk
theorem sput_c {f c e : Nat} (hS : S.At f c e) (b : List UInt8) : ACo Try.prog 55 [.bx 0 g 0, .sl (byA b)] (SltT g G t S d) (fun y os' => y = .sc (.int .i64 (sputR t S d f c e b)) ∧ os' = SltT g G t (sputS t S d f c e b) (sputD t S d f c e b)) := by
  obtain ⟨s1, s2, s3, s4, s5, s6⟩ := hS
  have hfl := frameN_len t (snapN (e + 1) b)
  have hsl := snapN_len (e + 1) b
  refine ACo.of' (st0 := [⟨g, .box 119 (fatC [.bx 1 G 0] t [.sc (.int .i64 S.file), .sc (.int .i64 S.counts), .sc (.int .i64 S.epoch), .sl (byA S.bytes), .sc (.bool S.down)])⟩, ⟨G, .obj (DiskP d)⟩, TK.mk 0 .off, TK.mk 0 .off]) 70 2 Try.func55 rfl 2 ?_
  refine AW.seq ?_
  refine AW.region ?_
  refine AL.ra ?_
  refine AL.nil ?_
  change AW _ _ _ _ _
  refine AW.seq ?_
  refine AW.seq ?_
  refine AW.region ?_
  refine AL.rm ?_
  refine AL.r (rd_peq_bx rfl pt_70 rfl rfl rfl) ?_
  refine AL.nil ?_
  change AW _ _ _ _ _
  refine AW.cond_f rfl ?_
  refine AW.skip ?_
  change AW _ _ _ _ _
  refine AW.seq ?_
  refine AW.seq ?_
  refine AW.region ?_
  refine AL.rm ?_
  refine AL.r (rd_nilc_bx rfl rfl rfl) ?_
  refine AL.r (rd_faddr_bx rfl fo_119_6 rfl rfl ⟨_, _, rfl⟩) ?_
  refine AL.r (rd_load_bx rfl ag_4 rfl rfl (fat_post 4 rfl rfl)) ?_
  refine AL.rm ?_
  refine AL.fk (d := 13) rfl (fun h13 => ?_) (fun h13 => ?_)
  ·skip
   refine AL.n ?_
   refine AL.rf ?_
   refine AL.rf ?_
   refine AL.rf ?_
   refine AL.rf ?_
   refine AL.rf ?_
   refine AL.r (rd_pick_t rfl rfl rfl) ?_
   refine AL.nil ?_
   change AW _ _ _ _ _
   refine AW.cond_t rfl ?_
   refine AW.seq ?_
   refine AW.region ?_
   refine AL.rm ?_
   refine AL.r (rd_nilc_bx rfl rfl rfl) ?_
   refine AL.r (rd_faddr_bx rfl fo_119_6 rfl rfl ⟨_, _, rfl⟩) ?_
   refine AL.op rfl (op_fatstore 4 rfl rfl rfl rfl (Nat.le_of_ble_eq_true rfl) rfl rfl rfl sz_4 ?_)
   refine AL.no ?_
   refine AL.nil ?_
   change AW _ _ _ _ _
   refine AW.seq ?_
   refine AW.region ?_
   refine AL.ra ?_
   refine AL.nil ?_
   change AW _ _ _ _ _
   refine AW.ret ?_
   repeat with_reducible first | refine thenA_ret ?_ | refine inBlockA_ret ?_
   with_reducible first | refine retO_ret ?_ | refine retO_normal ?_
   refine reso1Z rfl (ResV.tmp rfl) rfl ?_
   first | (have e1 := put_dn (t := t) (f := f) (c := c) (e := e) (b := b) (show (S.down || d.dark) = true by rw [h13]; rfl); exact ⟨by rw [e1.1], by rw [e1.2.1, e1.2.2]; rfl⟩) | (have e1 := put_dn (t := t) (f := f) (c := c) (e := e) (b := b) (show (S.down || d.dark) = true by rw [h19, Bool.or_true]); exact ⟨by rw [e1.1], by rw [e1.2.1, e1.2.2]; rfl⟩)
  ·skip
   refine AL.n ?_
   refine AL.ro (rd_move rfl rfl) ?_
   refine AL.ro (rd_nilc_bx rfl rfl rfl) ?_
   refine AL.ro (rd_faddr_bx rfl fo_119_0 rfl rfl ⟨_, _, rfl⟩) ?_
   refine AL.ro (rd_load_bx rfl ag_25 rfl rfl (fat_pre rfl)) ?_
   refine AL.on rfl rfl rfl (calloZ (od_dark d G) [1] ?_)
   rintro y os' ⟨rfl, rfl⟩
   refine AL.noZ ?_
   refine AL.r (rd_pick_f rfl rfl rfl) ?_
   refine AL.nil ?_
   change AW _ _ _ _ _
   refine AW.cd rfl (fun h19 => ?_) (fun h19 => ?_)
   ·skip
    refine AW.seq ?_
    refine AW.region ?_
    refine AL.rm ?_
    refine AL.r (rd_nilc_bx rfl rfl rfl) ?_
    refine AL.r (rd_faddr_bx rfl fo_119_6 rfl rfl ⟨_, _, rfl⟩) ?_
    refine AL.op rfl (op_fatstore 4 rfl rfl rfl rfl (Nat.le_of_ble_eq_true rfl) rfl rfl rfl sz_4 ?_)
    refine AL.no ?_
    refine AL.nil ?_
    change AW _ _ _ _ _
    refine AW.seq ?_
    refine AW.region ?_
    refine AL.ra ?_
    refine AL.nil ?_
    change AW _ _ _ _ _
    refine AW.ret ?_
    repeat with_reducible first | refine thenA_ret ?_ | refine inBlockA_ret ?_
    with_reducible first | refine retO_ret ?_ | refine retO_normal ?_
    refine reso1Z rfl (ResV.tmp rfl) rfl ?_
    first | (have e1 := put_dn (t := t) (f := f) (c := c) (e := e) (b := b) (show (S.down || d.dark) = true by rw [h13]; rfl); exact ⟨by rw [e1.1], by rw [e1.2.1, e1.2.2]; rfl⟩) | (have e1 := put_dn (t := t) (f := f) (c := c) (e := e) (b := b) (show (S.down || d.dark) = true by rw [h19, Bool.or_true]); exact ⟨by rw [e1.1], by rw [e1.2.1, e1.2.2]; rfl⟩)
   ·skip
    refine AW.skip ?_
    change AW _ _ _ _ _
    refine AW.seq ?_
    refine AW.seq ?_
    refine AW.region ?_
    have hnd : ¬ (S.down || d.dark) = true := (by rw [h13, h19]; decide)
    refine AL.rm ?_
    refine AL.r (rd_len_sl rfl el_29 rfl) ?_
    refine AL.r (rd_bin rfl rfl rfl (fun _ => rfl)) ?_
    refine AL.nil ?_
    change AW _ _ _ _ _
    refine AW.cd rfl (fun h25 => ?_) (fun h25 => ?_)
    ·skip
     refine AW.seq ?_
     refine AW.region ?_
     refine AL.ra ?_
     refine AL.nil ?_
     change AW _ _ _ _ _
     refine AW.ret ?_
     repeat with_reducible first | refine thenA_ret ?_ | refine inBlockA_ret ?_
     with_reducible first | refine retO_ret ?_ | refine retO_normal ?_
     refine reso1Z rfl (ResV.tmp rfl) rfl ?_
     (have e1 := put_long (t := t) (f := f) (c := c) (e := e) (b := b) hnd (by omega); exact ⟨by rw [e1.1], by rw [e1.2.1, e1.2.2]; rfl⟩)
    ·skip
     refine AW.skip ?_
     change AW _ _ _ _ _
     refine AW.seq ?_
     refine AW.seq ?_
     refine AW.region ?_
     refine AL.rm ?_
     refine AL.r (rd_nilc_bx rfl rfl rfl) ?_
     refine AL.r (rd_faddr_bx rfl fo_119_4 rfl rfl ⟨_, _, rfl⟩) ?_
     refine AL.r (rd_load_bx rfl ag_2 rfl rfl (fat_post 2 rfl rfl)) ?_
     refine AL.r (rd_bin rfl rfl rfl (fun _ => rfl)) ?_
     refine AL.nil ?_
     change AW _ _ _ _ _
     refine AW.cd rfl (fun h30 => ?_) (fun h30 => ?_)
     ·skip
      refine AW.seq ?_
      refine AW.region ?_
      refine AL.ra ?_
      refine AL.nil ?_
      change AW _ _ _ _ _
      refine AW.ret ?_
      repeat with_reducible first | refine thenA_ret ?_ | refine inBlockA_ret ?_
      with_reducible first | refine retO_ret ?_ | refine retO_normal ?_
      refine reso1Z rfl (ResV.tmp rfl) rfl ?_
      (have e1 := put_over (t := t) (f := f) (c := c) (e := e) (b := b) hnd (by omega) (by omega); exact ⟨by rw [e1.1], by rw [e1.2.1, e1.2.2]; rfl⟩)
     ·skip
      refine AW.skip ?_
      change AW _ _ _ _ _
      refine AW.seq ?_
      refine AW.region ?_
      obtain ⟨e1, e2, e3⟩ := put_go (t := t) (f := f) (c := c) (e := e) (b := b) hnd (by omega) (by omega)
      refine AL.rm ?_
      refine AL.r (rd_nilc_bx rfl rfl rfl) ?_
      refine AL.r (rd_faddr_bx rfl fo_119_3 rfl rfl ⟨_, _, rfl⟩) ?_
      refine AL.r (rd_load_bx rfl ag_3 rfl rfl (fat_post 1 rfl rfl)) ?_
      refine AL.r (rd_arith_sub rfl rfl rfl (by first | exact IntWalk.i64_in _ (by omega) | rfl)) ?_
      refine AL.ra ?_
      refine AL.nil ?_
      change AW _ _ _ _ _
      refine AW.seq ?_
      refine AW.drawA (by kernel_rfl) ?_
      refine ADA.r 0 rfl (ARdP.a (rdP_move rfl rfl)) rfl ?_
      refine ADA.r 1 rfl (ARdP.a (rdP_move rfl rfl)) rfl ?_
      refine ADA.r 2 rfl (ARdP.a (rdP_nilc_bx rfl rfl rfl)) rfl ?_
      refine ADA.r 3 rfl (ARdP.a (rdP_faddr_bx rfl fo_119_2 rfl rfl ⟨_, _, rfl⟩)) rfl ?_
      refine ADA.r 5 rfl (ARdP.a (rdP_move rfl rfl)) rfl ?_
      refine ADA.r 7 rfl (ARdP.a (rdP_move rfl rfl)) rfl ?_
      refine ADA.r 8 rfl (ARdP.a (rdP_move rfl rfl)) rfl ?_
      refine ADA.b ?_
      refine ADB.all (is := [4, 9]) (by kernel_rfl) (by simp) ?_
      intro i hi
      simp only [List.mem_cons, List.not_mem_nil, or_false] at hi
      rcases hi with rfl | rfl
      ·skip
       refine ⟨_, rfl, rfl, AOpB.op (ARd.opB (rd_load_bx rfl ag_3 rfl rfl (fat_post 0 rfl rfl)) ?_)⟩
       refine ADB.n ?_
       refine ADB.r 6 rfl (rdP_arith_add rfl rfl rfl (show IntKind.i64.wrap (S.file + (1 - S.counts)) = ((f + (1 - c) : Nat) : Int) by rw [s1, s2, IntWalk.i64_in _ (by omega)]; omega)) rfl ?_
       refine ADB.mv 9 rfl (calloZ (sframe_c g G t ht S d b (by omega) e s3 (by omega)) [0, 1] ?_)
       rintro y os' ⟨rfl, rfl⟩
       refine ADB.noZ ?_
       refine ADB.mv 10 rfl (calloZ (swrite_c g G t S d hd hk (f + (1 - c)) (by omega) (frameN t (snapN (e + 1) b)) (by omega)) [0, 1] ?_)
       rintro y os' ⟨rfl, rfl⟩
       refine ADB.noZ ?_
       refine ADB.r 11 rfl (rdP_assign rfl rfl) rfl ?_
       refine ADB.done (by kernel_rfl) ?_
       change AW _ _ _ _ _
       refine AW.seq ?_
       refine AW.seq ?_
       refine AW.region ?_
       refine AL.rm ?_
       refine AL.r (rd_bin rfl rfl rfl (fun _ => rfl)) ?_
       refine AL.nil ?_
       change AW _ _ _ _ _
       refine AW.cd rfl (fun h48 => ?_) (fun h48 => ?_)
       ·skip
        refine AW.region ?_
        refine AL.rm ?_
        refine AL.r (rd_nilc_bx rfl rfl rfl) ?_
        refine AL.r (rd_faddr_bx rfl fo_119_6 rfl rfl ⟨_, _, rfl⟩) ?_
        refine AL.op rfl (op_fatstore 4 rfl rfl rfl rfl (Nat.le_of_ble_eq_true rfl) rfl rfl rfl sz_4 ?_)
        refine AL.no ?_
        refine AL.nil ?_
        change AW _ _ _ _ _
        refine AW.seq ?_
        refine AW.seq ?_
        refine AW.region ?_
        refine AL.rm ?_
        refine AL.r (rd_bin rfl rfl rfl (fun _ => rfl)) ?_
        refine AL.nil ?_
        change AW _ _ _ _ _
        refine AW.cd rfl (fun h53 => ?_) (fun h53 => ?_)
        ·skip
         refine AW.seq ?_
         refine AW.region ?_
         refine AL.rm ?_
         refine AL.ra ?_
         refine AL.nil ?_
         change AW _ _ _ _ _
         refine AW.ret ?_
         repeat with_reducible first | refine thenA_ret ?_ | refine inBlockA_ret ?_
         with_reducible first | refine retO_ret ?_ | refine retO_normal ?_
         refine reso1Z rfl (ResV.tmp rfl) rfl ?_
         first | exact ⟨by rw [e1], by rw [e2, e3, if_neg h53, decide_eq_true h48]; rfl⟩ | exact ⟨by rw [e1], by rw [e2, e3, if_neg h53, decide_eq_false h48]; unfold SltT; rw [h13]; rfl⟩
        ·skip
         omega
       ·skip
        refine AW.skip ?_
        change AW _ _ _ _ _
        refine AW.seq ?_
        refine AW.seq ?_
        refine AW.region ?_
        refine AL.rm ?_
        refine AL.r (rd_bin rfl rfl rfl (fun _ => rfl)) ?_
        refine AL.nil ?_
        change AW _ _ _ _ _
        refine AW.cd rfl (fun h53 => ?_) (fun h53 => ?_)
        ·skip
         refine AW.seq ?_
         refine AW.region ?_
         refine AL.rm ?_
         refine AL.ra ?_
         refine AL.nil ?_
         change AW _ _ _ _ _
         refine AW.ret ?_
         repeat with_reducible first | refine thenA_ret ?_ | refine inBlockA_ret ?_
         with_reducible first | refine retO_ret ?_ | refine retO_normal ?_
         refine reso1Z rfl (ResV.tmp rfl) rfl ?_
         first | exact ⟨by rw [e1], by rw [e2, e3, if_neg h53, decide_eq_true h48]; rfl⟩ | exact ⟨by rw [e1], by rw [e2, e3, if_neg h53, decide_eq_false h48]; unfold SltT; rw [h13]; rfl⟩
        ·skip
         refine AW.skip ?_
         change AW _ _ _ _ _
         refine AW.seq ?_
         refine AW.region ?_
         refine AL.rm ?_
         refine AL.rm ?_
         refine AL.r (rd_nilc_bx rfl rfl rfl) ?_
         refine AL.r (rd_faddr_bx rfl fo_119_3 rfl rfl ⟨_, _, rfl⟩) ?_
         refine AL.op rfl (op_fatstore 1 rfl rfl rfl rfl (Nat.le_of_ble_eq_true rfl) rfl rfl rfl sz_3 ?_)
         refine AL.no ?_
         refine AL.nil ?_
         change AW _ _ _ _ _
         refine AW.seq ?_
         refine AW.region ?_
         refine AL.rm ?_
         refine AL.r (rd_nilc_bx rfl rfl rfl) ?_
         refine AL.r (rd_faddr_bx rfl fo_119_4 rfl rfl ⟨_, _, rfl⟩) ?_
         refine AL.r (rd_load_bx rfl ag_2 rfl rfl (fat_post 2 rfl rfl)) ?_
         refine AL.r (rd_arith_add rfl rfl rfl (by first | exact IntWalk.i64_in _ (by omega) | rfl)) ?_
         refine AL.r (rd_nilc_bx rfl rfl rfl) ?_
         refine AL.r (rd_faddr_bx rfl fo_119_4 rfl rfl ⟨_, _, rfl⟩) ?_
         refine AL.op rfl (op_fatstore 2 rfl rfl rfl rfl (Nat.le_of_ble_eq_true rfl) rfl rfl rfl sz_2 ?_)
         refine AL.no ?_
         refine AL.nil ?_
         change AW _ _ _ _ _
         refine AW.seq ?_
         refine AW.region ?_
         refine AL.rm ?_
         refine AL.op rfl (AOpB.op (bs_own 2 rfl ap_29 ze_5 rfl rfl rfl ?_))
         refine AL.no ?_
         refine AL.rm ?_
         refine AL.op rfl (op_append rfl ap_29 rfl rfl (src_s rfl) (by simp only [byA_len, List.length_nil]; omega) (by simp only [byA_len, List.length_nil]; omega) ?_)
         refine AL.no ?_
         refine AL.settle 69 rfl rfl (by first | rfl | exact cont_owM _ _ _ _) ?_
         refine AL.no ?_
         refine AL.r (rd_nilc_bx rfl rfl rfl) ?_
         refine AL.r (rd_faddr_bx rfl fo_119_5 rfl rfl ⟨_, _, rfl⟩) ?_
         refine AL.op rfl (op_fatstore 3 rfl rfl rfl rfl (Nat.le_of_ble_eq_true rfl) rfl rfl rfl sz_29 ?_)
         refine AL.no ?_
         refine AL.nil ?_
         change AW _ _ _ _ _
         refine AW.seq ?_
         refine AW.region ?_
         refine AL.ra ?_
         refine AL.nil ?_
         change AW _ _ _ _ _
         refine AW.ret ?_
         repeat with_reducible first | refine thenA_ret ?_ | refine inBlockA_ret ?_
         with_reducible first | refine retO_ret ?_ | refine retO_normal ?_
         refine reso1Z rfl (ResV.tmp rfl) rfl ?_
         exact ⟨by rw [e1, h53], by rw [e2, e3, if_pos h53, show (1 - S.counts) = ((1 - c : Nat) : Int) by rw [s2]; omega, show S.epoch + 1 = ((e + 1 : Nat) : Int) by rw [s3]; omega]; rfl⟩
      ·skip
       refine ⟨_, rfl, rfl, calloZ (sframe_c g G t ht S d b (by omega) e s3 (by omega)) [0, 1] ?_⟩
       rintro y os' ⟨rfl, rfl⟩
       refine ADB.noZ ?_
       refine ADB.mv 4 rfl (AOpB.op (ARd.opB (rd_load_bx rfl ag_3 rfl rfl (fat_post 0 rfl rfl)) ?_))
       refine ADB.n ?_
       refine ADB.r 6 rfl (rdP_arith_add rfl rfl rfl (show IntKind.i64.wrap (S.file + (1 - S.counts)) = ((f + (1 - c) : Nat) : Int) by rw [s1, s2, IntWalk.i64_in _ (by omega)]; omega)) rfl ?_
       refine ADB.mv 10 rfl (calloZ (swrite_c g G t S d hd hk (f + (1 - c)) (by omega) (frameN t (snapN (e + 1) b)) (by omega)) [0, 1] ?_)
       rintro y os' ⟨rfl, rfl⟩
       refine ADB.noZ ?_
       refine ADB.r 11 rfl (rdP_assign rfl rfl) rfl ?_
       refine ADB.done (by kernel_rfl) ?_
       change AW _ _ _ _ _
       refine AW.seq ?_
       refine AW.seq ?_
       refine AW.region ?_
       refine AL.rm ?_
       refine AL.r (rd_bin rfl rfl rfl (fun _ => rfl)) ?_
       refine AL.nil ?_
       change AW _ _ _ _ _
       refine AW.cd rfl (fun h48 => ?_) (fun h48 => ?_)
       ·skip
        refine AW.region ?_
        refine AL.rm ?_
        refine AL.r (rd_nilc_bx rfl rfl rfl) ?_
        refine AL.r (rd_faddr_bx rfl fo_119_6 rfl rfl ⟨_, _, rfl⟩) ?_
        refine AL.op rfl (op_fatstore 4 rfl rfl rfl rfl (Nat.le_of_ble_eq_true rfl) rfl rfl rfl sz_4 ?_)
        refine AL.no ?_
        refine AL.nil ?_
        change AW _ _ _ _ _
        refine AW.seq ?_
        refine AW.seq ?_
        refine AW.region ?_
        refine AL.rm ?_
        refine AL.r (rd_bin rfl rfl rfl (fun _ => rfl)) ?_
        refine AL.nil ?_
        change AW _ _ _ _ _
        refine AW.cd rfl (fun h53 => ?_) (fun h53 => ?_)
        ·skip
         refine AW.seq ?_
         refine AW.region ?_
         refine AL.rm ?_
         refine AL.ra ?_
         refine AL.nil ?_
         change AW _ _ _ _ _
         refine AW.ret ?_
         repeat with_reducible first | refine thenA_ret ?_ | refine inBlockA_ret ?_
         with_reducible first | refine retO_ret ?_ | refine retO_normal ?_
         refine reso1Z rfl (ResV.tmp rfl) rfl ?_
         first | exact ⟨by rw [e1], by rw [e2, e3, if_neg h53, decide_eq_true h48]; rfl⟩ | exact ⟨by rw [e1], by rw [e2, e3, if_neg h53, decide_eq_false h48]; unfold SltT; rw [h13]; rfl⟩
        ·skip
         omega
       ·skip
        refine AW.skip ?_
        change AW _ _ _ _ _
        refine AW.seq ?_
        refine AW.seq ?_
        refine AW.region ?_
        refine AL.rm ?_
        refine AL.r (rd_bin rfl rfl rfl (fun _ => rfl)) ?_
        refine AL.nil ?_
        change AW _ _ _ _ _
        refine AW.cd rfl (fun h53 => ?_) (fun h53 => ?_)
        ·skip
         refine AW.seq ?_
         refine AW.region ?_
         refine AL.rm ?_
         refine AL.ra ?_
         refine AL.nil ?_
         change AW _ _ _ _ _
         refine AW.ret ?_
         repeat with_reducible first | refine thenA_ret ?_ | refine inBlockA_ret ?_
         with_reducible first | refine retO_ret ?_ | refine retO_normal ?_
         refine reso1Z rfl (ResV.tmp rfl) rfl ?_
         first | exact ⟨by rw [e1], by rw [e2, e3, if_neg h53, decide_eq_true h48]; rfl⟩ | exact ⟨by rw [e1], by rw [e2, e3, if_neg h53, decide_eq_false h48]; unfold SltT; rw [h13]; rfl⟩
        ·skip
         refine AW.skip ?_
         change AW _ _ _ _ _
         refine AW.seq ?_
         refine AW.region ?_
         refine AL.rm ?_
         refine AL.rm ?_
         refine AL.r (rd_nilc_bx rfl rfl rfl) ?_
         refine AL.r (rd_faddr_bx rfl fo_119_3 rfl rfl ⟨_, _, rfl⟩) ?_
         refine AL.op rfl (op_fatstore 1 rfl rfl rfl rfl (Nat.le_of_ble_eq_true rfl) rfl rfl rfl sz_3 ?_)
         refine AL.no ?_
         refine AL.nil ?_
         change AW _ _ _ _ _
         refine AW.seq ?_
         refine AW.region ?_
         refine AL.rm ?_
         refine AL.r (rd_nilc_bx rfl rfl rfl) ?_
         refine AL.r (rd_faddr_bx rfl fo_119_4 rfl rfl ⟨_, _, rfl⟩) ?_
         refine AL.r (rd_load_bx rfl ag_2 rfl rfl (fat_post 2 rfl rfl)) ?_
         refine AL.r (rd_arith_add rfl rfl rfl (by first | exact IntWalk.i64_in _ (by omega) | rfl)) ?_
         refine AL.r (rd_nilc_bx rfl rfl rfl) ?_
         refine AL.r (rd_faddr_bx rfl fo_119_4 rfl rfl ⟨_, _, rfl⟩) ?_
         refine AL.op rfl (op_fatstore 2 rfl rfl rfl rfl (Nat.le_of_ble_eq_true rfl) rfl rfl rfl sz_2 ?_)
         refine AL.no ?_
         refine AL.nil ?_
         change AW _ _ _ _ _
         refine AW.seq ?_
         refine AW.region ?_
         refine AL.rm ?_
         refine AL.op rfl (AOpB.op (bs_own 2 rfl ap_29 ze_5 rfl rfl rfl ?_))
         refine AL.no ?_
         refine AL.rm ?_
         refine AL.op rfl (op_append rfl ap_29 rfl rfl (src_s rfl) (by simp only [byA_len, List.length_nil]; omega) (by simp only [byA_len, List.length_nil]; omega) ?_)
         refine AL.no ?_
         refine AL.settle 69 rfl rfl (by first | rfl | exact cont_owM _ _ _ _) ?_
         refine AL.no ?_
         refine AL.r (rd_nilc_bx rfl rfl rfl) ?_
         refine AL.r (rd_faddr_bx rfl fo_119_5 rfl rfl ⟨_, _, rfl⟩) ?_
         refine AL.op rfl (op_fatstore 3 rfl rfl rfl rfl (Nat.le_of_ble_eq_true rfl) rfl rfl rfl sz_29 ?_)
         refine AL.no ?_
         refine AL.nil ?_
         change AW _ _ _ _ _
         refine AW.seq ?_
         refine AW.region ?_
         refine AL.ra ?_
         refine AL.nil ?_
         change AW _ _ _ _ _
         refine AW.ret ?_
         repeat with_reducible first | refine thenA_ret ?_ | refine inBlockA_ret ?_
         with_reducible first | refine retO_ret ?_ | refine retO_normal ?_
         refine reso1Z rfl (ResV.tmp rfl) rfl ?_
         exact ⟨by rw [e1, h53], by rw [e2, e3, if_pos h53, show (1 - S.counts) = ((1 - c : Nat) : Int) by rw [s2]; omega, show S.epoch + 1 = ((e + 1 : Nat) : Int) by rw [s3]; omega]; rfl⟩
end
end Go.Proofs.Ytgjpeldgjpgbcaa
