/- Fold, walked over abstract states: the new log is opened. -/
import Derived.Test.YtgjpeldgjpgbcaaVltF
namespace Go.Proofs.Ytgjpeldgjpgbcaa
set_option linter.unusedSimpArgs false
set_option linter.unusedVariables false
set_option maxRecDepth 100000
open Go.RowKit

theorem cut0_ok {k : Nat} {d : DiskD} {f : Nat} (hok : d.Ok k) (hd : d.dark = false) (hc : cutR d f 0 = 0) : (cutD d f 0).dark = false ∧ (cutD d f 0).n f = [] := by
  unfold cutR at hc
  split at hc
  · cases hc
  · rename_i h1
    rw [if_neg (by rw [hd]; decide)] at hc
    split at hc
    · cases hc
    · rename_i h2
      have e : cutD d f 0 = cutD1 (burnD d 1) f 0 := by
        unfold cutD
        rw [if_neg h1, if_neg (by rw [hd]; decide), if_neg h2]
        rfl
      rw [e]
      refine ⟨?_, ?_⟩
      · show (burnD d 1).dark = false
        rcases burn_one hok with ⟨a, _⟩ | ⟨_, b⟩
        · exact absurd a h2
        · exact b.trans hd
      · show upd _ f _ f = []
        unfold upd
        rw [if_pos rfl]
        rfl
theorem lopen_e {k : Nat} (t : Nat → Nat) (ht : ∀ i, i < 256 → t i < 4294967296) (d : DiskD) (hd : d.Ok k) (hk : k ≤ 900000) (G h : Nat) (f : Nat) (hf : f < 4) (h1 : d.dark = false) (h2 : d.n f = []) : ACo Try.prog 38 [.bx 0 G 0, .sc (tabV t), .sc (.int .i64 (f : Int))] [⟨G, .obj (DiskP d)⟩, ⟨h, .off⟩] (fun y os => y = .tu [.bx 1 (h + 1) 0, .sl [], .sc (.int .i64 0)] ∧ os = [⟨G, .obj (DiskP d)⟩, ⟨h + 1, .box 111 (fatC [.bx 0 G 0] t [.sc (.int .i64 (f : Int)), .sc (.bool false), .sc (.int .i64 0), .sc (.int .i64 0), .sc (.int .i64 0)])⟩]) := by
  obtain ⟨a, b⟩ := open_whole (t := t) (d := d) (f := f) h1 (by rw [h2, scan_nil]; decide)
  have := lopen_ok t ht d hd hk G h f hf a
  rw [b, h2, scan_nil] at this
  exact this
section
variable (gv gs gl G h : Nat) (t : Nat → Nat) (ht : ∀ i, i < 256 → t i < 4294967296) (S : SltD) (L : LogD) {k : Nat} (d : DiskD) (hd : d.Ok k) (hk : k ≤ 800000) (f : Nat)
variable (hf : f = 2 ∨ f = 3) (hdk : d.dark = false) (hc : cutR d (5 - f) 0 = 0) {c e : Nat} (hS : S.At 0 c e)
include hf hd hk ht hdk hc hS
theorem vfold_put (b : List UInt8) (hp : ¬ sputR t S (cutD d (5 - f) 0) 0 c e b = 0) : ACo Try.prog 64 [.bx 0 gv 0, .sl (byA b)] (VltT5 gv gs gl G h t ⟨f, false⟩ S L d) (fun y os' => y = .sc (.int .i64 (sputR t S (cutD d (5 - f) 0) 0 c e b)) ∧ os' = VltT gv gs gl G t ⟨f, decide (sputR t S (cutD d (5 - f) 0) 0 c e b = 10)⟩ (sputS t S (cutD d (5 - f) 0) 0 c e b) L (sputD t S (cutD d (5 - f) 0) 0 c e b) ++ [⟨h + 1, logC 3 G t ⟨((5 - f : Nat) : Int), false, 0, 0, 0⟩⟩]) := by
  refine ACo.of' (st0 := [⟨gv, .box 126 (fatC [.bx 3 G 0] t [.bx 1 gs 0, .bx 2 gl 0, .sc (.int .i64 (f : Int)), .sc (.bool false)])⟩, ⟨gs, .box 119 (fatC [.bx 3 G 0] t [.sc (.int .i64 S.file), .sc (.int .i64 S.counts), .sc (.int .i64 S.epoch), .sl (byA S.bytes), .sc (.bool S.down)])⟩, ⟨gl, .box 111 (fatC [.bx 3 G 0] t [.sc (.int .i64 L.file), .sc (.bool L.down), .sc (.int .i64 L.records), .sc (.int .i64 L.used), .sc (.int .i64 L.fresh)])⟩, ⟨G, .obj (DiskP d)⟩, ⟨h, .off⟩]) 75 0 Try.func64 rfl 5 ?_
  refine AW.seq ?_
  refine AW.region ?_
  refine AL.ra ?_
  refine AL.nil ?_
  change AW _ _ _ _ _
  refine AW.seq ?_
  refine AW.seq ?_
  refine AW.region ?_
  refine AL.rm ?_
  refine AL.op rfl (calloV (vready_l gv gs gl G t S L d f hdk) [0, 1, 2, 3] ?_)
  rintro y os' ⟨rfl, rfl⟩
  refine AL.noV ?_
  refine AL.ra ?_
  refine AL.nil ?_
  change AW _ _ _ _ _
  refine AW.seq ?_
  refine AW.region ?_
  refine AL.rm ?_
  refine AL.r (rd_bin rfl rfl rfl (fun _ => rfl)) ?_
  refine AL.nil ?_
  change AW _ _ _ _ _
  refine AW.cond_f rfl ?_
  refine AW.skip ?_
  change AW _ _ _ _ _
  refine AW.seq ?_
  refine AW.region ?_
  refine AL.rm ?_
  refine AL.r (rd_nilc_bx rfl rfl rfl) ?_
  refine AL.r (rd_faddr_bx rfl fo_126_4 rfl rfl ⟨_, _, rfl⟩) ?_
  refine AL.r (rd_load_bx rfl ag_3 rfl rfl (fat_post 2 rfl rfl)) ?_
  refine AL.r (rd_arith_sub rfl rfl rfl (show IntKind.i64.wrap (5 - (f : Int)) = ((5 - f : Nat) : Int) by rw [IntWalk.i64_in _ (by omega)]; omega)) ?_
  refine AL.ra ?_
  refine AL.nil ?_
  change AW _ _ _ _ _
  refine AW.seq ?_
  refine AW.seq ?_
  refine AW.region ?_
  refine AL.rm ?_
  refine AL.rm ?_
  refine AL.r (rd_nilc_bx rfl rfl rfl) ?_
  refine AL.r (rd_faddr_bx rfl fo_126_0 rfl rfl ⟨_, _, rfl⟩) ?_
  refine AL.r (rd_load_bx rfl ag_25 rfl rfl (fat_pre rfl)) ?_
  refine AL.rm ?_
  refine AL.op rfl (calloV (lval (ok_cut2 hd (by omega) G (5 - f) (by omega) 0) hc) [3] ?_)
  rintro y os' ⟨rfl, rfl⟩
  refine AL.noV ?_
  refine AL.op rfl (calloV (vheard_0 gv gs gl G t S L (cutD d (5 - f) 0) f) [0, 1, 2, 3] ?_)
  rintro y os' ⟨rfl, rfl⟩
  refine AL.noV ?_
  refine AL.ra ?_
  refine AL.nil ?_
  change AW _ _ _ _ _
  refine AW.seq ?_
  refine AW.region ?_
  refine AL.rm ?_
  refine AL.r (rd_bin rfl rfl rfl (fun _ => rfl)) ?_
  refine AL.nil ?_
  change AW _ _ _ _ _
  refine AW.cond_f rfl ?_
  refine AW.skip ?_
  change AW _ _ _ _ _
  refine AW.seq ?_
  refine AW.drawA (by kernel_rfl) ?_
  refine ADA.r 0 rfl (ARdP.a (rdP_move rfl rfl)) rfl ?_
  refine ADA.r 1 rfl (ARdP.a (rdP_nilc_bx rfl rfl rfl)) rfl ?_
  refine ADA.r 2 rfl (ARdP.a (rdP_faddr_bx rfl fo_126_0 rfl rfl ⟨_, _, rfl⟩)) rfl ?_
  refine ADA.r 4 rfl (ARdP.a (rdP_move rfl rfl)) rfl ?_
  refine ADA.r 5 rfl (ARdP.a (rdP_nilc_bx rfl rfl rfl)) rfl ?_
  refine ADA.r 6 rfl (ARdP.a (rdP_faddr_bx rfl fo_126_1 rfl rfl ⟨_, _, rfl⟩)) rfl ?_
  refine ADA.r 8 rfl (ARdP.a (rdP_move rfl rfl)) rfl ?_
  refine ADA.b ?_
  refine ADB.all (is := [3, 7]) (by kernel_rfl) (by simp) ?_
  intro i hi
  simp only [List.mem_cons, List.not_mem_nil, or_false] at hi
  rcases hi with rfl | rfl
  ·skip
   refine ⟨_, rfl, rfl, AOpB.op (ARd.opB (rd_load_bx rfl ag_25 rfl rfl (fat_pre rfl)) ?_)⟩
   refine ADB.n ?_
   refine ADB.mv 7 rfl (AOpB.op (ARd.opB (rd_fat_tab rfl ag_53 rfl rfl rfl) ?_))
   refine ADB.n ?_
   refine ADB.mv 9 rfl (calloV (lopen_e t ht (cutD d (5 - f) 0) (cutD_Ok hd (by omega) 0) (by omega) G h (5 - f) (by omega) (cut0_ok hd hdk hc).1 (cut0_ok hd hdk hc).2) [3, 4] ?_)
   rintro y os' ⟨rfl, rfl⟩
   refine ADB.noV ?_
   refine ADB.r 10 rfl (rdP_move rfl rfl) rfl ?_
   refine ADB.r 11 rfl (rdP_extract rfl rfl rfl) rfl ?_
   refine ADB.r 12 rfl (rdP_extract rfl rfl rfl) rfl ?_
   refine ADB.r 13 rfl (rdP_extract rfl rfl rfl) rfl ?_
   refine ADB.r 14 rfl (rdP_assign rfl rfl) rfl ?_
   refine ADB.r 15 rfl (rdP_assign rfl rfl) rfl ?_
   refine ADB.r 16 rfl (rdP_assign rfl rfl) rfl ?_
   refine ADB.done (by kernel_rfl) ?_
   change AW _ _ _ _ _
   refine AW.seq ?_
   refine AW.seq ?_
   refine AW.region ?_
   refine AL.rm ?_
   refine AL.rm ?_
   refine AL.op rfl (calloV (vheard_0 gv gs gl G t S L (cutD d (5 - f) 0) f) [0, 1, 2, 3] ?_)
   rintro y os' ⟨rfl, rfl⟩
   refine AL.noV ?_
   refine AL.r (rd_bin rfl rfl rfl (fun _ => rfl)) ?_
   refine AL.nil ?_
   change AW _ _ _ _ _
   refine AW.cond_f rfl ?_
   refine AW.skip ?_
   change AW _ _ _ _ _
   refine AW.seq ?_
   refine AW.seq ?_
   refine AW.region ?_
   refine AL.rm ?_
   refine AL.rm ?_
   refine AL.r (rd_nilc_bx rfl rfl rfl) ?_
   refine AL.r (rd_faddr_bx rfl fo_126_2 rfl rfl ⟨_, _, rfl⟩) ?_
   refine AL.r (rd_load_bx rfl ag_70 rfl rfl (fat_post 0 rfl rfl)) ?_
   refine AL.rm ?_
   refine AL.op rfl (calloV (sput_c gs G t ht S (cutD d (5 - f) 0) (cutD_Ok hd (by omega) 0) (by omega) hS b) [1, 3] ?_)
   rintro y os' ⟨rfl, rfl⟩
   refine AL.noV ?_
   refine AL.op rfl (calloV (vheard_l gv gs gl G t (sputS t S (cutD d (5 - f) 0) 0 c e b) L (sputD t S (cutD d (5 - f) 0) 0 c e b) f (sputR t S (cutD d (5 - f) 0) 0 c e b)) [0, 1, 2, 3] ?_)
   rintro y os' ⟨rfl, rfl⟩
   refine AL.noV ?_
   refine AL.ra ?_
   refine AL.nil ?_
   change AW _ _ _ _ _
   refine AW.seq ?_
   refine AW.region ?_
   refine AL.rm ?_
   refine AL.r (rd_bin rfl rfl rfl (fun _ => rfl)) ?_
   refine AL.nil ?_
   change AW _ _ _ _ _
   refine AW.cd rfl (fun h61 => ?_) (fun h61 => ?_)
   ·skip
    refine AW.seq ?_
    refine AW.region ?_
    refine AL.rm ?_
    refine AL.ra ?_
    refine AL.nil ?_
    change AW _ _ _ _ _
    refine AW.ret ?_
    repeat with_reducible first | refine thenA_ret ?_ | refine inBlockA_ret ?_
    with_reducible first | refine retO_ret ?_ | refine retO_normal ?_
    refine reso1V rfl (ResV.tmp rfl) rfl ?_
    exact ⟨rfl, rfl⟩
   ·skip
    refine AW.skip ?_
    change AW _ _ _ _ _
    refine AW.seq ?_
    exact (hp h61).elim
  ·skip
   refine ⟨_, rfl, rfl, AOpB.op (ARd.opB (rd_fat_tab rfl ag_53 rfl rfl rfl) ?_)⟩
   refine ADB.n ?_
   refine ADB.mv 3 rfl (AOpB.op (ARd.opB (rd_load_bx rfl ag_25 rfl rfl (fat_pre rfl)) ?_))
   refine ADB.n ?_
   refine ADB.mv 9 rfl (calloV (lopen_e t ht (cutD d (5 - f) 0) (cutD_Ok hd (by omega) 0) (by omega) G h (5 - f) (by omega) (cut0_ok hd hdk hc).1 (cut0_ok hd hdk hc).2) [3, 4] ?_)
   rintro y os' ⟨rfl, rfl⟩
   refine ADB.noV ?_
   refine ADB.r 10 rfl (rdP_move rfl rfl) rfl ?_
   refine ADB.r 11 rfl (rdP_extract rfl rfl rfl) rfl ?_
   refine ADB.r 12 rfl (rdP_extract rfl rfl rfl) rfl ?_
   refine ADB.r 13 rfl (rdP_extract rfl rfl rfl) rfl ?_
   refine ADB.r 14 rfl (rdP_assign rfl rfl) rfl ?_
   refine ADB.r 15 rfl (rdP_assign rfl rfl) rfl ?_
   refine ADB.r 16 rfl (rdP_assign rfl rfl) rfl ?_
   refine ADB.done (by kernel_rfl) ?_
   change AW _ _ _ _ _
   refine AW.seq ?_
   refine AW.seq ?_
   refine AW.region ?_
   refine AL.rm ?_
   refine AL.rm ?_
   refine AL.op rfl (calloV (vheard_0 gv gs gl G t S L (cutD d (5 - f) 0) f) [0, 1, 2, 3] ?_)
   rintro y os' ⟨rfl, rfl⟩
   refine AL.noV ?_
   refine AL.r (rd_bin rfl rfl rfl (fun _ => rfl)) ?_
   refine AL.nil ?_
   change AW _ _ _ _ _
   refine AW.cond_f rfl ?_
   refine AW.skip ?_
   change AW _ _ _ _ _
   refine AW.seq ?_
   refine AW.seq ?_
   refine AW.region ?_
   refine AL.rm ?_
   refine AL.rm ?_
   refine AL.r (rd_nilc_bx rfl rfl rfl) ?_
   refine AL.r (rd_faddr_bx rfl fo_126_2 rfl rfl ⟨_, _, rfl⟩) ?_
   refine AL.r (rd_load_bx rfl ag_70 rfl rfl (fat_post 0 rfl rfl)) ?_
   refine AL.rm ?_
   refine AL.op rfl (calloV (sput_c gs G t ht S (cutD d (5 - f) 0) (cutD_Ok hd (by omega) 0) (by omega) hS b) [1, 3] ?_)
   rintro y os' ⟨rfl, rfl⟩
   refine AL.noV ?_
   refine AL.op rfl (calloV (vheard_l gv gs gl G t (sputS t S (cutD d (5 - f) 0) 0 c e b) L (sputD t S (cutD d (5 - f) 0) 0 c e b) f (sputR t S (cutD d (5 - f) 0) 0 c e b)) [0, 1, 2, 3] ?_)
   rintro y os' ⟨rfl, rfl⟩
   refine AL.noV ?_
   refine AL.ra ?_
   refine AL.nil ?_
   change AW _ _ _ _ _
   refine AW.seq ?_
   refine AW.region ?_
   refine AL.rm ?_
   refine AL.r (rd_bin rfl rfl rfl (fun _ => rfl)) ?_
   refine AL.nil ?_
   change AW _ _ _ _ _
   refine AW.cd rfl (fun h61 => ?_) (fun h61 => ?_)
   ·skip
    refine AW.seq ?_
    refine AW.region ?_
    refine AL.rm ?_
    refine AL.ra ?_
    refine AL.nil ?_
    change AW _ _ _ _ _
    refine AW.ret ?_
    repeat with_reducible first | refine thenA_ret ?_ | refine inBlockA_ret ?_
    with_reducible first | refine retO_ret ?_ | refine retO_normal ?_
    refine reso1V rfl (ResV.tmp rfl) rfl ?_
    exact ⟨rfl, rfl⟩
   ·skip
    refine AW.skip ?_
    change AW _ _ _ _ _
    refine AW.seq ?_
    exact (hp h61).elim
theorem vfold_ok (b : List UInt8) (hd2 : (sputD t S (cutD d (5 - f) 0) 0 c e b).Ok (k + 10)) (hp : sputR t S (cutD d (5 - f) 0) 0 c e b = 0) : ACo Try.prog 64 [.bx 0 gv 0, .sl (byA b)] (VltT5 gv gs gl G h t ⟨f, false⟩ S L d) (fun y os' => y = .sc (.int .i64 0) ∧ os' = [⟨gv, vltC G gs 4 (h + 1) t ⟨((5 - f : Nat) : Int), false⟩⟩, ⟨gs, sltC G t (sputS t S (cutD d (5 - f) 0) 0 c e b)⟩, ⟨gl, logC 3 G t (emptyL L (sputD t S (cutD d (5 - f) 0) 0 c e b))⟩, ⟨G, .obj (DiskP (emptyD L (sputD t S (cutD d (5 - f) 0) 0 c e b)))⟩, ⟨h + 1, logC 3 G t ⟨((5 - f : Nat) : Int), false, 0, 0, 0⟩⟩]) := by
  refine ACo.of' (st0 := [⟨gv, .box 126 (fatC [.bx 3 G 0] t [.bx 1 gs 0, .bx 2 gl 0, .sc (.int .i64 (f : Int)), .sc (.bool false)])⟩, ⟨gs, .box 119 (fatC [.bx 3 G 0] t [.sc (.int .i64 S.file), .sc (.int .i64 S.counts), .sc (.int .i64 S.epoch), .sl (byA S.bytes), .sc (.bool S.down)])⟩, ⟨gl, .box 111 (fatC [.bx 3 G 0] t [.sc (.int .i64 L.file), .sc (.bool L.down), .sc (.int .i64 L.records), .sc (.int .i64 L.used), .sc (.int .i64 L.fresh)])⟩, ⟨G, .obj (DiskP d)⟩, ⟨h, .off⟩]) 75 0 Try.func64 rfl 5 ?_
  refine AW.seq ?_
  refine AW.region ?_
  refine AL.ra ?_
  refine AL.nil ?_
  change AW _ _ _ _ _
  refine AW.seq ?_
  refine AW.seq ?_
  refine AW.region ?_
  refine AL.rm ?_
  refine AL.op rfl (calloV (vready_l gv gs gl G t S L d f hdk) [0, 1, 2, 3] ?_)
  rintro y os' ⟨rfl, rfl⟩
  refine AL.noV ?_
  refine AL.ra ?_
  refine AL.nil ?_
  change AW _ _ _ _ _
  refine AW.seq ?_
  refine AW.region ?_
  refine AL.rm ?_
  refine AL.r (rd_bin rfl rfl rfl (fun _ => rfl)) ?_
  refine AL.nil ?_
  change AW _ _ _ _ _
  refine AW.cond_f rfl ?_
  refine AW.skip ?_
  change AW _ _ _ _ _
  refine AW.seq ?_
  refine AW.region ?_
  refine AL.rm ?_
  refine AL.r (rd_nilc_bx rfl rfl rfl) ?_
  refine AL.r (rd_faddr_bx rfl fo_126_4 rfl rfl ⟨_, _, rfl⟩) ?_
  refine AL.r (rd_load_bx rfl ag_3 rfl rfl (fat_post 2 rfl rfl)) ?_
  refine AL.r (rd_arith_sub rfl rfl rfl (show IntKind.i64.wrap (5 - (f : Int)) = ((5 - f : Nat) : Int) by rw [IntWalk.i64_in _ (by omega)]; omega)) ?_
  refine AL.ra ?_
  refine AL.nil ?_
  change AW _ _ _ _ _
  refine AW.seq ?_
  refine AW.seq ?_
  refine AW.region ?_
  refine AL.rm ?_
  refine AL.rm ?_
  refine AL.r (rd_nilc_bx rfl rfl rfl) ?_
  refine AL.r (rd_faddr_bx rfl fo_126_0 rfl rfl ⟨_, _, rfl⟩) ?_
  refine AL.r (rd_load_bx rfl ag_25 rfl rfl (fat_pre rfl)) ?_
  refine AL.rm ?_
  refine AL.op rfl (calloV (lval (ok_cut2 hd (by omega) G (5 - f) (by omega) 0) hc) [3] ?_)
  rintro y os' ⟨rfl, rfl⟩
  refine AL.noV ?_
  refine AL.op rfl (calloV (vheard_0 gv gs gl G t S L (cutD d (5 - f) 0) f) [0, 1, 2, 3] ?_)
  rintro y os' ⟨rfl, rfl⟩
  refine AL.noV ?_
  refine AL.ra ?_
  refine AL.nil ?_
  change AW _ _ _ _ _
  refine AW.seq ?_
  refine AW.region ?_
  refine AL.rm ?_
  refine AL.r (rd_bin rfl rfl rfl (fun _ => rfl)) ?_
  refine AL.nil ?_
  change AW _ _ _ _ _
  refine AW.cond_f rfl ?_
  refine AW.skip ?_
  change AW _ _ _ _ _
  refine AW.seq ?_
  refine AW.drawA (by kernel_rfl) ?_
  refine ADA.r 0 rfl (ARdP.a (rdP_move rfl rfl)) rfl ?_
  refine ADA.r 1 rfl (ARdP.a (rdP_nilc_bx rfl rfl rfl)) rfl ?_
  refine ADA.r 2 rfl (ARdP.a (rdP_faddr_bx rfl fo_126_0 rfl rfl ⟨_, _, rfl⟩)) rfl ?_
  refine ADA.r 4 rfl (ARdP.a (rdP_move rfl rfl)) rfl ?_
  refine ADA.r 5 rfl (ARdP.a (rdP_nilc_bx rfl rfl rfl)) rfl ?_
  refine ADA.r 6 rfl (ARdP.a (rdP_faddr_bx rfl fo_126_1 rfl rfl ⟨_, _, rfl⟩)) rfl ?_
  refine ADA.r 8 rfl (ARdP.a (rdP_move rfl rfl)) rfl ?_
  refine ADA.b ?_
  refine ADB.all (is := [3, 7]) (by kernel_rfl) (by simp) ?_
  intro i hi
  simp only [List.mem_cons, List.not_mem_nil, or_false] at hi
  rcases hi with rfl | rfl
  ·skip
   refine ⟨_, rfl, rfl, AOpB.op (ARd.opB (rd_load_bx rfl ag_25 rfl rfl (fat_pre rfl)) ?_)⟩
   refine ADB.n ?_
   refine ADB.mv 7 rfl (AOpB.op (ARd.opB (rd_fat_tab rfl ag_53 rfl rfl rfl) ?_))
   refine ADB.n ?_
   refine ADB.mv 9 rfl (calloV (lopen_e t ht (cutD d (5 - f) 0) (cutD_Ok hd (by omega) 0) (by omega) G h (5 - f) (by omega) (cut0_ok hd hdk hc).1 (cut0_ok hd hdk hc).2) [3, 4] ?_)
   rintro y os' ⟨rfl, rfl⟩
   refine ADB.noV ?_
   refine ADB.r 10 rfl (rdP_move rfl rfl) rfl ?_
   refine ADB.r 11 rfl (rdP_extract rfl rfl rfl) rfl ?_
   refine ADB.r 12 rfl (rdP_extract rfl rfl rfl) rfl ?_
   refine ADB.r 13 rfl (rdP_extract rfl rfl rfl) rfl ?_
   refine ADB.r 14 rfl (rdP_assign rfl rfl) rfl ?_
   refine ADB.r 15 rfl (rdP_assign rfl rfl) rfl ?_
   refine ADB.r 16 rfl (rdP_assign rfl rfl) rfl ?_
   refine ADB.done (by kernel_rfl) ?_
   change AW _ _ _ _ _
   refine AW.seq ?_
   refine AW.seq ?_
   refine AW.region ?_
   refine AL.rm ?_
   refine AL.rm ?_
   refine AL.op rfl (calloV (vheard_0 gv gs gl G t S L (cutD d (5 - f) 0) f) [0, 1, 2, 3] ?_)
   rintro y os' ⟨rfl, rfl⟩
   refine AL.noV ?_
   refine AL.r (rd_bin rfl rfl rfl (fun _ => rfl)) ?_
   refine AL.nil ?_
   change AW _ _ _ _ _
   refine AW.cond_f rfl ?_
   refine AW.skip ?_
   change AW _ _ _ _ _
   refine AW.seq ?_
   refine AW.seq ?_
   refine AW.region ?_
   refine AL.rm ?_
   refine AL.rm ?_
   refine AL.r (rd_nilc_bx rfl rfl rfl) ?_
   refine AL.r (rd_faddr_bx rfl fo_126_2 rfl rfl ⟨_, _, rfl⟩) ?_
   refine AL.r (rd_load_bx rfl ag_70 rfl rfl (fat_post 0 rfl rfl)) ?_
   refine AL.rm ?_
   refine AL.op rfl (calloV (lval (sput_c gs G t ht S (cutD d (5 - f) 0) (cutD_Ok hd (by omega) 0) (by omega) hS b) hp) [1, 3] ?_)
   rintro y os' ⟨rfl, rfl⟩
   refine AL.noV ?_
   refine AL.op rfl (calloV (vheard_0 gv gs gl G t (sputS t S (cutD d (5 - f) 0) 0 c e b) L (sputD t S (cutD d (5 - f) 0) 0 c e b) f) [0, 1, 2, 3] ?_)
   rintro y os' ⟨rfl, rfl⟩
   refine AL.noV ?_
   refine AL.ra ?_
   refine AL.nil ?_
   change AW _ _ _ _ _
   refine AW.seq ?_
   refine AW.region ?_
   refine AL.rm ?_
   refine AL.r (rd_bin rfl rfl rfl (fun _ => rfl)) ?_
   refine AL.nil ?_
   change AW _ _ _ _ _
   refine AW.cond_f rfl ?_
   refine AW.skip ?_
   change AW _ _ _ _ _
   refine AW.seq ?_
   refine AW.region ?_
   refine AL.rm ?_
   refine AL.r (rd_nilc_bx rfl rfl rfl) ?_
   refine AL.r (rd_faddr_bx rfl fo_126_3 rfl rfl ⟨_, _, rfl⟩) ?_
   refine AL.r (rd_load_bx rfl ag_55 rfl rfl (fat_post 1 rfl rfl)) ?_
   refine AL.ra ?_
   refine AL.nil ?_
   change AW _ _ _ _ _
   refine AW.seq ?_
   refine AW.region ?_
   refine AL.rm ?_
   refine AL.rm ?_
   refine AL.rm ?_
   refine AL.rm ?_
   refine AL.r (rd_nilc_bx rfl rfl rfl) ?_
   refine AL.r (rd_faddr_bx rfl fo_126_3 rfl rfl ⟨_, _, rfl⟩) ?_
   refine AL.op rfl (op_fatstore 1 rfl rfl rfl rfl (Nat.le_of_ble_eq_true rfl) rfl rfl (by first | exact live_box rfl rfl | rfl) sz_55 ?_)
   refine AL.no ?_
   refine AL.r (rd_nilc_bx rfl rfl rfl) ?_
   refine AL.r (rd_faddr_bx rfl fo_126_4 rfl rfl ⟨_, _, rfl⟩) ?_
   refine AL.op rfl (op_fatstore 2 rfl rfl rfl rfl (Nat.le_of_ble_eq_true rfl) rfl rfl rfl sz_3 ?_)
   refine AL.no ?_
   refine AL.nil ?_
   change AW _ _ _ _ _
   refine AW.seq ?_
   refine AW.region ?_
   refine AL.rm ?_
   refine AL.op rfl (calloV (lempty_c gl G t L (sputD t S (cutD d (5 - f) 0) 0 c e b) hd2 (by omega)) [2, 3] ?_)
   rintro y os' ⟨rfl, rfl⟩
   refine AL.noV ?_
   refine AL.nil ?_
   change AW _ _ _ _ _
   refine AW.seq ?_
   refine AW.region ?_
   refine AL.ra ?_
   refine AL.nil ?_
   change AW _ _ _ _ _
   refine AW.ret ?_
   repeat with_reducible first | refine thenA_ret ?_ | refine inBlockA_ret ?_
   with_reducible first | refine retO_ret ?_ | refine retO_normal ?_
   refine reso1V rfl (ResV.tmp rfl) rfl ?_
   exact ⟨rfl, rfl⟩
  ·skip
   refine ⟨_, rfl, rfl, AOpB.op (ARd.opB (rd_fat_tab rfl ag_53 rfl rfl rfl) ?_)⟩
   refine ADB.n ?_
   refine ADB.mv 3 rfl (AOpB.op (ARd.opB (rd_load_bx rfl ag_25 rfl rfl (fat_pre rfl)) ?_))
   refine ADB.n ?_
   refine ADB.mv 9 rfl (calloV (lopen_e t ht (cutD d (5 - f) 0) (cutD_Ok hd (by omega) 0) (by omega) G h (5 - f) (by omega) (cut0_ok hd hdk hc).1 (cut0_ok hd hdk hc).2) [3, 4] ?_)
   rintro y os' ⟨rfl, rfl⟩
   refine ADB.noV ?_
   refine ADB.r 10 rfl (rdP_move rfl rfl) rfl ?_
   refine ADB.r 11 rfl (rdP_extract rfl rfl rfl) rfl ?_
   refine ADB.r 12 rfl (rdP_extract rfl rfl rfl) rfl ?_
   refine ADB.r 13 rfl (rdP_extract rfl rfl rfl) rfl ?_
   refine ADB.r 14 rfl (rdP_assign rfl rfl) rfl ?_
   refine ADB.r 15 rfl (rdP_assign rfl rfl) rfl ?_
   refine ADB.r 16 rfl (rdP_assign rfl rfl) rfl ?_
   refine ADB.done (by kernel_rfl) ?_
   change AW _ _ _ _ _
   refine AW.seq ?_
   refine AW.seq ?_
   refine AW.region ?_
   refine AL.rm ?_
   refine AL.rm ?_
   refine AL.op rfl (calloV (vheard_0 gv gs gl G t S L (cutD d (5 - f) 0) f) [0, 1, 2, 3] ?_)
   rintro y os' ⟨rfl, rfl⟩
   refine AL.noV ?_
   refine AL.r (rd_bin rfl rfl rfl (fun _ => rfl)) ?_
   refine AL.nil ?_
   change AW _ _ _ _ _
   refine AW.cond_f rfl ?_
   refine AW.skip ?_
   change AW _ _ _ _ _
   refine AW.seq ?_
   refine AW.seq ?_
   refine AW.region ?_
   refine AL.rm ?_
   refine AL.rm ?_
   refine AL.r (rd_nilc_bx rfl rfl rfl) ?_
   refine AL.r (rd_faddr_bx rfl fo_126_2 rfl rfl ⟨_, _, rfl⟩) ?_
   refine AL.r (rd_load_bx rfl ag_70 rfl rfl (fat_post 0 rfl rfl)) ?_
   refine AL.rm ?_
   refine AL.op rfl (calloV (lval (sput_c gs G t ht S (cutD d (5 - f) 0) (cutD_Ok hd (by omega) 0) (by omega) hS b) hp) [1, 3] ?_)
   rintro y os' ⟨rfl, rfl⟩
   refine AL.noV ?_
   refine AL.op rfl (calloV (vheard_0 gv gs gl G t (sputS t S (cutD d (5 - f) 0) 0 c e b) L (sputD t S (cutD d (5 - f) 0) 0 c e b) f) [0, 1, 2, 3] ?_)
   rintro y os' ⟨rfl, rfl⟩
   refine AL.noV ?_
   refine AL.ra ?_
   refine AL.nil ?_
   change AW _ _ _ _ _
   refine AW.seq ?_
   refine AW.region ?_
   refine AL.rm ?_
   refine AL.r (rd_bin rfl rfl rfl (fun _ => rfl)) ?_
   refine AL.nil ?_
   change AW _ _ _ _ _
   refine AW.cond_f rfl ?_
   refine AW.skip ?_
   change AW _ _ _ _ _
   refine AW.seq ?_
   refine AW.region ?_
   refine AL.rm ?_
   refine AL.r (rd_nilc_bx rfl rfl rfl) ?_
   refine AL.r (rd_faddr_bx rfl fo_126_3 rfl rfl ⟨_, _, rfl⟩) ?_
   refine AL.r (rd_load_bx rfl ag_55 rfl rfl (fat_post 1 rfl rfl)) ?_
   refine AL.ra ?_
   refine AL.nil ?_
   change AW _ _ _ _ _
   refine AW.seq ?_
   refine AW.region ?_
   refine AL.rm ?_
   refine AL.rm ?_
   refine AL.rm ?_
   refine AL.rm ?_
   refine AL.r (rd_nilc_bx rfl rfl rfl) ?_
   refine AL.r (rd_faddr_bx rfl fo_126_3 rfl rfl ⟨_, _, rfl⟩) ?_
   refine AL.op rfl (op_fatstore 1 rfl rfl rfl rfl (Nat.le_of_ble_eq_true rfl) rfl rfl (by first | exact live_box rfl rfl | rfl) sz_55 ?_)
   refine AL.no ?_
   refine AL.r (rd_nilc_bx rfl rfl rfl) ?_
   refine AL.r (rd_faddr_bx rfl fo_126_4 rfl rfl ⟨_, _, rfl⟩) ?_
   refine AL.op rfl (op_fatstore 2 rfl rfl rfl rfl (Nat.le_of_ble_eq_true rfl) rfl rfl rfl sz_3 ?_)
   refine AL.no ?_
   refine AL.nil ?_
   change AW _ _ _ _ _
   refine AW.seq ?_
   refine AW.region ?_
   refine AL.rm ?_
   refine AL.op rfl (calloV (lempty_c gl G t L (sputD t S (cutD d (5 - f) 0) 0 c e b) hd2 (by omega)) [2, 3] ?_)
   rintro y os' ⟨rfl, rfl⟩
   refine AL.noV ?_
   refine AL.nil ?_
   change AW _ _ _ _ _
   refine AW.seq ?_
   refine AW.region ?_
   refine AL.ra ?_
   refine AL.nil ?_
   change AW _ _ _ _ _
   refine AW.ret ?_
   repeat with_reducible first | refine thenA_ret ?_ | refine inBlockA_ret ?_
   with_reducible first | refine retO_ret ?_ | refine retO_normal ?_
   refine reso1V rfl (ResV.tmp rfl) rfl ?_
   exact ⟨rfl, rfl⟩
end
end Go.Proofs.Ytgjpeldgjpgbcaa
