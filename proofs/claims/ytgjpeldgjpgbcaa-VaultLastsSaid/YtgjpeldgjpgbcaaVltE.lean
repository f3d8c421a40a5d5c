/- The vault is made on a new disk: walked over abstract states. -/
import Derived.Test.YtgjpeldgjpgbcaaVltC
namespace Go.Proofs.Ytgjpeldgjpgbcaa
set_option linter.unusedSimpArgs false
set_option linter.unusedVariables false
set_option maxRecDepth 100000
open Go.RowKit

/-- A new disk whose first i files were cut. -/
def clD (R : Int) : Nat → DiskD
  | 0 => newD R
  | i + 1 => cutD (clD R i) i 0
def crD (R : Int) : DiskD := syncD (clD R 4)
section
variable {R : Int} (hR : 1 ≤ R ∧ R ≤ 200000)
include hR
theorem cl_calm : ∀ i, i ≤ 4 → (clD R i).Ok i ∧ (clD R i).dark = false ∧ (clD R i).fused = false ∧ (clD R i).room = R ∧ (clD R i).n = (fun _ => []) ∧ (i < 4 → cutR (clD R i) i 0 = 0)
  | 0, _ => by
    have h : cutR (newD R) 0 0 = 0 := by
      unfold cutR
      rw [if_neg (by simp [newD]), if_neg (by simp [newD]), if_neg (by rw [burnN_calm rfl]; decide)]
    exact ⟨okNew hR, rfl, rfl, rfl, rfl, fun _ => h⟩
  | i + 1, hi => by
    obtain ⟨a, b, c, e, f, g⟩ := cl_calm i (by omega)
    have hn : ((clD R i).n i).length = 0 := by rw [f]; rfl
    have e1 : clD R (i + 1) = cutD1 (burnD (clD R i) 1) i 0 := by
      show cutD (clD R i) i 0 = _
      unfold cutD
      rw [if_neg (by omega), if_neg (by rw [b]; decide), if_neg (by rw [burnN_calm c]; decide)]
      rfl
    have h1 : (clD R (i + 1)).Ok (i + 1) := cutD_Ok a (by omega) 0
    have h2 : (clD R (i + 1)).dark = false := by rw [e1]; show (burnD (clD R i) 1).dark = false; rw [burnD_dark c]; exact b
    have h3 : (clD R (i + 1)).fused = false := by rw [e1]; show (burnD (clD R i) 1).fused = false; unfold burnD; simp [c]
    have h4 : (clD R (i + 1)).room = R := by rw [e1]; show (burnD (clD R i) 1).room = R; unfold burnD; simp [c, e]
    have h5 : (clD R (i + 1)).n = fun _ => [] := by
      rw [e1]
      show upd (burnD (clD R i) 1).n i (((burnD (clD R i) 1).n i).take 0) = _
      have : (burnD (clD R i) 1).n = fun _ => [] := by unfold burnD; simp [c, f]
      rw [this]; funext j; unfold upd; split <;> rfl
    refine ⟨h1, h2, h3, h4, h5, fun _ => ?_⟩
    unfold cutR
    rw [if_neg (by rw [h5]; simp), if_neg (by rw [h2]; decide), if_neg (by rw [burnN_calm h3]; decide)]
theorem cr_sync : syncR (clD R 4) = 0 ∧ Rest R 4 (fun _ => []) (crD R) ∧ (crD R).fused = false := by
  obtain ⟨a, b, c, e, f, _⟩ := cl_calm hR 4 (by omega)
  rcases (sync_ok a).2 b with ⟨h1, _, h2⟩ | ⟨_, _, _, h⟩
  · rw [e, f] at h2
    exact ⟨h1, h2, by unfold crD; rw [syncD_fused, c]⟩
  · rw [c] at h; cases h
end
theorem scan_nil (t : Nat → Nat) : scanN t [] = ([], 0) := scanN_frames (t := t) fget_nil [] (by intro r hr; cases hr)
def S0 : SltD := ⟨0, 1, 0, [], false⟩
section
variable {k : Nat} (t : Nat → Nat) (ht : ∀ i, i < 256 → t i < 4294967296) (G h1 h2 h3 : Nat)
include ht
theorem vopen_new (d : DiskD) {R : Int} (hr : Rest R k (fun _ => []) d) (hk : k ≤ 900000) : ACo Try.prog 58 [.bx 0 G 0, .sc (tabV t)] [⟨G, .obj (DiskP d)⟩, ⟨h1, .off⟩, ⟨h2, .off⟩, ⟨h3, .off⟩] (fun y os => y = .tu [.bx 3 (h3 + 1) 0, .sl [], .sc (.int .i64 0)] ∧ os = [⟨G, .obj (DiskP d)⟩, ⟨h1 + 1, .box 119 (fatC [.bx 0 G 0] t [.sc (.int .i64 0), .sc (.int .i64 1), .sc (.int .i64 0), .sl (byA []), .sc (.bool false)])⟩, ⟨h2 + 1, .box 111 (fatC [.bx 0 G 0] t [.sc (.int .i64 2), .sc (.bool false), .sc (.int .i64 0), .sc (.int .i64 0), .sc (.int .i64 0)])⟩, ⟨h3 + 1, .box 126 (fatC [.bx 0 G 0] t [.bx 1 (h1 + 1) 0, .bx 2 (h2 + 1) 0, .sc (.int .i64 2), .sc (.bool false)])⟩]) := by
  have hs : SI t d.n 0 1 0 [] := si_new t 0 (by rw [hr.n]) (by rw [hr.n])
  have hf : d.n (vfile 0) = [] := by rw [hr.n]
  obtain ⟨a, b⟩ := open_whole (t := t) (d := d) (f := vfile 0) hr.dark (by rw [hf, scan_nil]; decide)
  have := vopen_ok t ht d hr.gro.ok hk G h1 h2 h3 hr.dark (S := S0) (e := 0) hs.opened rfl rfl rfl a
  rw [b, hf, scan_nil] at this
  exact this
theorem vcreate_c {R : Int} (hR : 1 ≤ R ∧ R ≤ 200000) : ACo Try.prog 57 [.bx 0 G 0, .sc (tabV t)] [⟨G, .obj (DiskP (newD R))⟩, ⟨h1, .off⟩, ⟨h2, .off⟩, ⟨h3, .off⟩] (fun y os => y = .tu [.bx 3 (h3 + 1) 0, .sc (.int .i64 0)] ∧ os = [⟨G, .obj (DiskP (crD R))⟩, ⟨h1 + 1, .box 119 (fatC [.bx 0 G 0] t [.sc (.int .i64 0), .sc (.int .i64 1), .sc (.int .i64 0), .sl (byA []), .sc (.bool false)])⟩, ⟨h2 + 1, .box 111 (fatC [.bx 0 G 0] t [.sc (.int .i64 2), .sc (.bool false), .sc (.int .i64 0), .sc (.int .i64 0), .sc (.int .i64 0)])⟩, ⟨h3 + 1, .box 126 (fatC [.bx 0 G 0] t [.bx 1 (h1 + 1) 0, .bx 2 (h2 + 1) 0, .sc (.int .i64 2), .sc (.bool false)])⟩]) := by
  refine ACo.of' (st0 := [⟨G, .obj (DiskP (newD R))⟩, ⟨h1, .off⟩, ⟨h2, .off⟩, ⟨h3, .off⟩, TK.mk 0 .off]) 36 1 Try.func57 rfl 4 ?_
  refine AW.seq ?_
  refine AW.region ?_
  refine AL.op rfl (AOpB.op (op_tabbox 4 rfl rfl rfl ?_))
  refine AL.no ?_
  refine AL.ra ?_
  refine AL.ra ?_
  refine AL.nil ?_
  change AW _ _ _ _ _
  refine AW.seq ?_
  refine AW.seq ?_
  refine AW.region ?_
  refine AL.rm ?_
  refine AL.r (rd_peq_bx rfl pt_25 rfl rfl rfl) ?_
  refine AL.nil ?_
  change AW _ _ _ _ _
  refine AW.cond_f rfl ?_
  refine AW.skip ?_
  change AW _ _ _ _ _
  refine AW.seq ?_
  refine AW.seq ?_
  refine AW.region ?_
  refine AL.rm ?_
  refine AL.nil ?_
  change AW _ _ _ _ _
  refine AW.block ?_
  refine AW.loopM (ι := Nat) [4, 5, 6, 7, 15, 16, 17, 18, 19, 20, 21, 22, 23] (fun j => [(14, .sc (.int .i64 (j : Int)))]) [] (fun j => [(0, ⟨G, .obj (DiskP (clD R j))⟩)]) (fun j => j ≤ 4) (fun j => 4 - j) 0 (Nat.zero_le _) (by simp only [anys, upds, offs, List.set_cons_zero, List.set_cons_succ]; repeat (first | exact Wk.nil | refine Wk.same ?_ | refine Wk.any ?_)) (by simp only [anys, upds, offs, List.set_cons_zero, List.set_cons_succ]; repeat (first | exact Sk.nil _ | refine Sk.same _ ?_ | refine Sk.scr _ (by decide) ?_)) ?_
  rintro j gs hJ
  refine AW.norm (by simp only [anys, upds, offs, List.set_cons_zero, List.set_cons_succ]; rfl) (by (try simp only [anys, upds, offs, List.set_cons_zero, List.set_cons_succ]); (try rfl)) ?_
  refine AW.seq ?_
  refine AW.region ?_
  refine AL.r (rd_bin rfl rfl rfl (fun _ => rfl)) ?_
  refine AL.nil ?_
  change AW _ _ _ _ _
  refine AW.seq ?_
  refine AW.cd rfl (fun h15 => ?_) (fun h15 => ?_)
  ·skip
   refine AW.skip ?_
   change AW _ _ _ _ _
   refine AW.seq ?_
   refine AW.block ?_
   refine AW.seq ?_
   refine AW.region ?_
   refine AL.rm ?_
   refine AL.ra ?_
   refine AL.nil ?_
   change AW _ _ _ _ _
   refine AW.seq ?_
   refine AW.region ?_
   refine AL.rm ?_
   refine AL.rm ?_
   refine AL.op rfl (calloZ (lval (ok_cut2 (cl_calm hR j hJ).1 (by omega) G j (by omega) 0) ((cl_calm hR j hJ).2.2.2.2.2 (by omega))) [0] ?_)
   rintro y os' ⟨rfl, rfl⟩
   refine AL.noZ ?_
   refine AL.ra ?_
   refine AL.nil ?_
   change AW _ _ _ _ _
   refine AW.seq ?_
   refine AW.region ?_
   refine AL.rm ?_
   refine AL.r (rd_bin rfl rfl rfl (fun _ => rfl)) ?_
   refine AL.nil ?_
   change AW _ _ _ _ _
   refine AW.cond_f rfl ?_
   refine AW.skip ?_
   change AW _ _ _ _ _
   refine AW.region ?_
   refine AL.r (rd_arith_add rfl rfl rfl (by first | exact IntWalk.i64_in _ (by omega) | rfl)) ?_
   refine AL.rm ?_
   refine AL.nil ?_
   refine ⟨j + 1, ?_, by first | omega | (simp only []; omega), ?_, ?_⟩
   ·show j + 1 ≤ 4; omega
   ·simp only [anys, upds, offs, List.set_cons_zero, List.set_cons_succ]; repeat (first | exact Wk.nil | refine Wk.same ?_ | refine Wk.any ?_)
   ·simp only [anys, upds, offs, List.set_cons_zero, List.set_cons_succ]; repeat (first | exact Sk.nil _ | refine Sk.same _ ?_ | refine Sk.scr _ (by decide) ?_)
  ·skip
   refine AW.exit ?_
   change AW _ _ _ _ _
   refine AW.seq ?_
   refine AW.seq ?_
   refine AW.region ?_
   obtain rfl : j = 4 := (by omega)
   refine AL.rm ?_
   refine AL.op rfl (calloZ (lval (ok_sync (cl_calm hR 4 (Nat.le_refl _)).1 (by omega) G) (cr_sync hR).1) [0] ?_)
   rintro y os' ⟨rfl, rfl⟩
   refine AL.noZ ?_
   refine AL.ra ?_
   refine AL.nil ?_
   change AW _ _ _ _ _
   refine AW.seq ?_
   refine AW.region ?_
   refine AL.rm ?_
   refine AL.r (rd_bin rfl rfl rfl (fun _ => rfl)) ?_
   refine AL.nil ?_
   change AW _ _ _ _ _
   refine AW.cond_f rfl ?_
   refine AW.skip ?_
   change AW _ _ _ _ _
   refine AW.seq ?_
   refine AW.region ?_
   refine AL.rm ?_
   refine AL.r (rd_tab0 rfl ag_53 rfl rfl) ?_
   refine AL.op rfl (calloZ (vopen_new t ht G h1 h2 h3 (crD R) (cr_sync hR).2.1 (by omega)) [0, 1, 2, 3] ?_)
   rintro y os' ⟨rfl, rfl⟩
   refine AL.noZ ?_
   refine AL.rm ?_
   refine AL.r (rd_extract rfl rfl rfl) ?_
   refine AL.r (rd_extract rfl rfl rfl) ?_
   refine AL.r (rd_extract rfl rfl rfl) ?_
   refine AL.ra ?_
   refine AL.ra ?_
   refine AL.ra ?_
   refine AL.nil ?_
   change AW _ _ _ _ _
   refine AW.seq ?_
   refine AW.region ?_
   refine AL.rm ?_
   refine AL.rm ?_
   refine AL.ra ?_
   refine AL.ra ?_
   refine AL.nil ?_
   change AW _ _ _ _ _
   refine AW.ret ?_
   repeat with_reducible first | refine thenA_ret ?_ | refine inBlockA_ret ?_
   with_reducible first | refine retO_ret ?_ | refine retO_normal ?_
   refine reso2Z rfl (ResV.tmp rfl) (resO_bx (by decide) rfl) (ResV.tmp rfl) rfl ?_
   exact ⟨rfl, rfl⟩
end
end Go.Proofs.Ytgjpeldgjpgbcaa
