/- The law DiskNil, walked over abstract states; the chapter's example of the disk. -/
import Derived.Test.YtdgcbhihmnhnaaaDskE
import Derived.Test.YtdgcbhihmnhnaaaOpB
namespace Go.Proofs.Ytdgcbhihmnhnaaa
set_option linter.unusedSimpArgs false
set_option linter.unusedVariables false
set_option maxRecDepth 100000
open Go.RowKit

def aw1 : DiskD := fuseD (newD 10) 2
def aw2 : DiskD := appDi aw1 1 [97, 98, 99]
def aw3 : DiskD := crashD aw2 1
theorem aw1_ok : aw1.Ok 0 := (okNew (by omega)).fuseD 2 (by omega)
theorem aw2_ok : aw2.Ok 1 := aw1_ok.app 1 [97, 98, 99]
theorem aw3_ok : aw3.Ok 1 := aw2_ok.crash 1
theorem aw_app : ACo Try.prog 13 [.bx 0 1 0, .sc (.int .i64 1), .sl (byA [97, 98, 99])] [⟨1, .obj (DiskP aw1)⟩] (fun y os' => y = .sc (.int .i64 10) ∧ os' = [⟨1, .obj (DiskP aw2)⟩]) := ok_append aw1_ok (by omega) 1 1 [97, 98, 99] (by decide)
theorem aw_dark : ACo Try.prog 46 [.bx 0 1 0] [⟨1, .obj (DiskP aw2)⟩] (fun y os' => y = .sc (.bool true) ∧ os' = [⟨1, .obj (DiskP aw2)⟩]) := od_dark aw2 1
theorem aw_crash : ACo Try.prog 17 [.bx 0 1 0, .sc (.int .i64 1)] [⟨1, .obj (DiskP aw2)⟩] (fun y os' => y = .tu [] ∧ os' = [⟨1, .obj (DiskP aw3)⟩]) := ok_crash aw2_ok (by omega) 1 1 (by omega)
theorem aw_read : ACo Try.prog 19 [.bx 0 1 0, .sc (.int .i64 1)] [⟨1, .obj (DiskP aw3)⟩] (fun y os' => y = .tu [.sl (byA [97]), .sc (.int .i64 0)] ∧ os' = [⟨1, .obj (DiskP aw3)⟩]) := ok_read aw3_ok (by omega) 1 1
theorem awake9_c : AC Try.prog 10 [] (fun r => r = .s (.sc (.bool true))) := by
  refine AC.of' 44 3 Try.func10 rfl ?_; change AW _ _ _ _ [TK.mk 0 .off, TK.mk 0 .off, TK.mk 0 .off]; refine AW.seq ?_; refine AW.region ?_; refine AL.ra ?_; refine AL.nil ?_; change AW _ _ _ _ _; refine AW.seq ?_; refine AW.region ?_; refine AL.op rfl (calloS (od_new 10 (by omega) 0) [0] ?_); rintro y os' ⟨rfl, rfl⟩; refine AL.noS ?_; refine AL.rm ?_; refine AL.r (rd_extract rfl rfl rfl) ?_; refine AL.r (rd_extract rfl rfl rfl) ?_; refine AL.ra ?_; refine AL.ra ?_; refine AL.nil ?_; change AW _ _ _ _ _; refine AW.seq ?_; refine AW.region ?_; refine AL.rm ?_; refine AL.op rfl (calloS (od_fuse (newD 10) 1 2) [0] ?_); rintro y os' ⟨rfl, rfl⟩; refine AL.noS ?_; refine AL.nil ?_; change AW _ _ _ _ _; refine AW.seq ?_; refine AW.region ?_; refine AL.rm ?_; refine AL.op rfl (AOpB.op (bs_own 1 rfl ap_29 ze_5 rfl rfl rfl ?_)); refine AL.no ?_; refine AL.op rfl (op_conv_own rfl by_29 rfl rfl ?_); refine AL.no ?_
  refine AL.op rfl (calloS (aw_app) [0] ?_); rintro y os' ⟨rfl, rfl⟩; refine AL.noS ?_; refine AL.ra ?_; refine AL.nil ?_; change AW _ _ _ _ _; refine AW.seq ?_; refine AW.region ?_; refine AL.rm ?_; refine AL.op rfl (calloS (aw_dark) [0] ?_); rintro y os' ⟨rfl, rfl⟩; refine AL.noS ?_; refine AL.ra ?_; refine AL.nil ?_; change AW _ _ _ _ _; refine AW.seq ?_; refine AW.region ?_; refine AL.rm ?_; refine AL.op rfl (calloS (aw_crash) [0] ?_); rintro y os' ⟨rfl, rfl⟩; refine AL.noS ?_; refine AL.nil ?_; change AW _ _ _ _ _; refine AW.seq ?_; refine AW.region ?_; refine AL.rm ?_; refine AL.op rfl (calloS (aw_read) [0] ?_); rintro y os' ⟨rfl, rfl⟩; refine AL.noS ?_; refine AL.rm ?_; refine AL.r (rd_extract rfl rfl rfl) ?_; refine AL.r (rd_extract rfl rfl rfl) ?_; refine AL.ra ?_; refine AL.ra ?_; refine AL.nil ?_; change AW _ _ _ _ _; refine AW.seq ?_; refine AW.region ?_; refine AL.rm ?_; refine AL.r (rd_bin rfl rfl rfl (fun _ => rfl)) ?_
  refine AL.rm ?_; refine AL.ro (rd_move rfl rfl) ?_; refine AL.ro (rd_bin rfl rfl rfl (fun _ => rfl)) ?_; refine AL.r (rd_pick_t rfl rfl rfl) ?_; refine AL.rm ?_; refine AL.ro (rd_move rfl rfl) ?_; refine AL.r (rd_pick_t rfl rfl rfl) ?_; refine AL.rm ?_; refine AL.ro (rd_move rfl rfl) ?_; refine AL.ro (rd_b2s rfl (by kernel_rfl) (src_s rfl)) ?_; refine AL.ro (rd_seq rfl rfl rfl) ?_; refine AL.r (rd_pick_t rfl rfl rfl) ?_; refine AL.rm ?_; refine AL.fk (d := 40) rfl (fun h40 => ?_) (fun h40 => ?_)
  ·refine AL.n ?_; refine AL.ro (rd_move rfl rfl) ?_; refine AL.ro (rd_bin rfl rfl rfl (fun _ => rfl)) ?_; refine AL.r (rd_pick_t rfl rfl rfl) ?_; refine AL.ra ?_; refine AL.nil ?_; change AW _ _ _ _ _; refine AW.ret ?_; change ResA _ _ _ _ _; refine res1 rfl (ResV.tmp rfl) rfl ?_
   first | rfl | (simp at h38; done) | simp_all
  ·refine AL.n ?_; refine AL.rf ?_; refine AL.rf ?_; refine AL.r (rd_pick_f rfl rfl rfl) ?_; refine AL.ra ?_; refine AL.nil ?_; change AW _ _ _ _ _; refine AW.ret ?_; change ResA _ _ _ _ _; refine res1 rfl (ResV.tmp rfl) rfl ?_
   first | rfl | (simp at h38; done) | simp_all
end Go.Proofs.Ytdgcbhihmnhnaaa
