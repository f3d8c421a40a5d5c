/- The twelfth law of a vault that isn't there or lies on a dark disk. No conditions. -/
import Derived.Test.YtgjpeldgjpgbcaaVltW
namespace Go.Proofs.Ytgjpeldgjpgbcaa
set_option linter.unusedSimpArgs false
set_option linter.unusedVariables false
set_option maxRecDepth 100000
open Go.RowKit

section
variable (gv gs gl G : Nat) (t : Nat → Nat) (ht : ∀ i, i < 256 → t i < 4294967296) (V : VltD) (S : SltD) (L : LogD) {k : Nat} (d : DiskD) (hd : d.Ok k) (hk : k ≤ 900000)
include hd hk
theorem vsync_dn (hdn : (V.down || d.dark) = true) : ACo Try.prog 63 [.bx 0 gv 0] (VltT gv gs gl G t V S L d) (fun y os' => y = .sc (.int .i64 10) ∧ os' = VltT gv gs gl G t ⟨V.file, true⟩ S L d) := by
  have := vsync_c gv gs gl G t V S L d hd hk
  unfold vsyncR vsyncV vsyncL vsyncD at this
  rw [if_pos hdn, if_pos hdn, if_pos hdn, if_pos hdn] at this
  exact this
include ht
theorem vadd_dn (hL : L.Ok) (b : List UInt8) (hdn : (V.down || d.dark) = true) : ACo Try.prog 62 [.bx 0 gv 0, .sl (byA b)] (VltT gv gs gl G t V S L d) (fun y os' => y = .sc (.int .i64 10) ∧ os' = VltT gv gs gl G t ⟨V.file, true⟩ S L d) := by
  have := vadd_c gv gs gl G t ht V S L d hd hk hL b
  unfold vaddR vaddV vaddL vaddD at this
  rw [if_pos hdn, if_pos hdn, if_pos hdn, if_pos hdn] at this
  exact this
end
theorem vcreate_dk {k : Nat} (t : Nat → Nat) (d : DiskD) (hd : d.Ok k) (hk : k ≤ 900000) (G : Nat) (hdk : d.dark = true) : ACo Try.prog 57 [.bx 0 G 0, .sc (tabV t)] [⟨G, .obj (DiskP d)⟩] (fun y os => y = .tu [.sc (.pointer none), .sc (.int .i64 10)] ∧ os = [⟨G, .obj (DiskP d)⟩]) := by
  have h1 : cutR d 0 0 = 10 := by unfold cutR; rw [if_neg (by omega), if_pos hdk]
  have h2 : cutD d 0 0 = d := by unfold cutD; rw [if_neg (by omega), if_pos hdk]
  have hc := ok_cut2 hd (by omega) G 0 (by omega) 0
  rw [h1, h2] at hc
  refine ACo.of' (st0 := [⟨G, .obj (DiskP d)⟩, TK.mk 0 .off]) 36 1 Try.func57 rfl 1 ?_
  refine AW.seq ?_
  refine AW.region ?_
  refine AL.op rfl (AOpB.op (op_tabbox 1 rfl rfl rfl ?_))
  refine AL.no ?_
  refine AL.ra ?_
  refine AL.ra ?_
  refine AL.nil ?_
  change AW _ _ _ _ _
  refine AW.seq ?_
  refine AW.seq ?_
  refine AW.region ?_
  refine AL.rm ?_
  refine AL.r (rd_peq_bx rfl pt_25 rfl rfl rfl) ?_
  refine AL.nil ?_
  change AW _ _ _ _ _
  refine AW.cond_f rfl ?_
  refine AW.skip ?_
  change AW _ _ _ _ _
  refine AW.seq ?_
  refine AW.seq ?_
  refine AW.region ?_
  refine AL.rm ?_
  refine AL.nil ?_
  change AW _ _ _ _ _
  refine AW.block ?_
  refine AW.loopM (ι := Nat) [4, 5, 6, 7, 15, 16, 17, 18, 19, 20, 21, 22, 23] (fun j => [(14, .sc (.int .i64 (j : Int)))]) [] (fun j => []) (fun j => j = 0) (fun j => 1 - j) 0 (rfl) (by simp only [anys, upds, offs, List.set_cons_zero, List.set_cons_succ]; repeat (first | exact Wk.nil | refine Wk.same ?_ | refine Wk.any ?_)) (by simp only [anys, upds, offs, List.set_cons_zero, List.set_cons_succ]; repeat (first | exact Sk.nil _ | refine Sk.same _ ?_ | refine Sk.scr _ (by decide) ?_)) ?_
  rintro j gs hJ
  refine AW.norm (by simp only [anys, upds, offs, List.set_cons_zero, List.set_cons_succ]; rfl) (by (try simp only [anys, upds, offs, List.set_cons_zero, List.set_cons_succ]); (try rfl)) ?_
  refine AW.seq ?_
  refine AW.region ?_
  subst hJ
  refine AL.r (rd_bin rfl rfl rfl (fun _ => rfl)) ?_
  refine AL.nil ?_
  change AW _ _ _ _ _
  refine AW.seq ?_
  refine AW.cd rfl (fun h15 => ?_) (fun h15 => ?_)
  ·skip
   refine AW.skip ?_
   change AW _ _ _ _ _
   refine AW.seq ?_
   refine AW.block ?_
   refine AW.seq ?_
   refine AW.region ?_
   refine AL.rm ?_
   refine AL.ra ?_
   refine AL.nil ?_
   change AW _ _ _ _ _
   refine AW.seq ?_
   refine AW.region ?_
   refine AL.rm ?_
   refine AL.rm ?_
   refine AL.op rfl (calloS (hc) [0] ?_)
   rintro y os' ⟨rfl, rfl⟩
   refine AL.noS ?_
   refine AL.ra ?_
   refine AL.nil ?_
   change AW _ _ _ _ _
   refine AW.seq ?_
   refine AW.region ?_
   refine AL.rm ?_
   refine AL.r (rd_bin rfl rfl rfl (fun _ => rfl)) ?_
   refine AL.nil ?_
   change AW _ _ _ _ _
   refine AW.cond_t rfl ?_
   refine AW.seq ?_
   refine AW.region ?_
   refine AL.rm ?_
   refine AL.ra ?_
   refine AL.ra ?_
   refine AL.nil ?_
   change AW _ _ _ _ _
   refine AW.ret ?_
   repeat with_reducible first | refine thenA_ret ?_ | refine inBlockA_ret ?_
   with_reducible first | refine retO_ret ?_ | refine retO_normal ?_
   refine reso2S rfl (ResV.tmp rfl) rfl (ResV.tmp rfl) rfl ?_
   exact ⟨rfl, rfl⟩
  ·skip
   refine AW.exit ?_
   change AW _ _ _ _ _
   refine AW.seq ?_
   refine AW.seq ?_
   omega
def mD0 : DiskD := crD 2000
def mD1 : DiskD := fuseD mD0 0
def mD2 : DiskD := syncD mD1
theorem m_Ok0 : mD0.Ok 4 := (cr_sync (R := 2000) ⟨by omega, by omega⟩).2.1.gro.ok
theorem m_Ok1 : mD1.Ok 4 := m_Ok0.fuseD 0 (by omega)
theorem m_Ok2 : mD2.Ok 4 := m_Ok1.sync
theorem m_dark : mD2.dark = true := by kernel_rfl
def mV1 : VltD := ⟨2, true⟩
theorem vaultNil_c (b : List UInt8) : AC Try.prog 15 [.sl (byA b)] (fun r => r = .s (.sc (.bool true))) := by
  refine AC.of' 154 5 Try.func15 rfl ?_
  change AW _ _ _ _ [TK.mk 0 .off, TK.mk 0 .off, TK.mk 0 .off, TK.mk 0 .off, TK.mk 0 .off]
  refine AW.seq ?_
  refine AW.region ?_
  refine AL.ra ?_
  refine AL.nil ?_
  change AW _ _ _ _ _
  refine AW.seq ?_
  refine AW.seq ?_
  refine AW.region ?_
  refine AL.op rfl (AOpB.op (op_call (awake12_c) rfl (by kernel_rfl) rfl (none) ?_))
  rintro r rfl
  refine AL.no ?_
  refine AL.r (rd_un rfl rfl (fun _ => rfl)) ?_
  refine AL.nil ?_
  change AW _ _ _ _ _
  refine AW.cond_f rfl ?_
  refine AW.skip ?_
  change AW _ _ _ _ _
  refine AW.seq ?_
  refine AW.seq ?_
  refine AW.region ?_
  refine AL.rm ?_
  refine AL.r (rd_len_sl rfl el_29 rfl) ?_
  refine AL.r (rd_bin rfl rfl rfl (fun _ => rfl)) ?_
  refine AL.nil ?_
  change AW _ _ _ _ _
  refine AW.cd rfl (fun h20 => ?_) (fun h20 => ?_)
  ·skip
   refine AW.seq ?_
   refine AW.region ?_
   refine AL.ra ?_
   refine AL.nil ?_
   change AW _ _ _ _ _
   refine AW.ret ?_
   change ResA _ _ _ _ _
   refine res1 rfl (ResV.tmp rfl) rfl ?_
   rfl
  ·skip
   refine AW.skip ?_
   change AW _ _ _ _ _
   refine AW.seq ?_
   refine AW.region ?_
   refine AL.op rfl (AOpB.op (op_call (made_c) rfl (by kernel_rfl) rfl (none) ?_))
   rintro r rfl
   refine AL.no ?_
   refine AL.op rfl (AOpB.op (op_taballoc 4 rfl rfl ?_))
   refine AL.no ?_
   refine AL.op rfl (op_tabstore rfl rfl rfl (tabA_len _) rfl sz_Table ?_)
   refine AL.no ?_
   refine AL.nil ?_
   change AW _ _ _ _ _
   refine AW.seq ?_
   refine AW.region ?_
   refine AL.ra ?_
   refine AL.nil ?_
   change AW _ _ _ _ _
   refine AW.seq ?_
   refine AW.region ?_
   refine AL.r (rd_tab0 rfl ag_53 rfl rfl) ?_
   refine AL.op rfl (AOpB.op (op_call (nil_vcreate byteN) rfl (by kernel_rfl) rfl (none) ?_))
   rintro r rfl
   refine AL.no ?_
   refine AL.rm ?_
   refine AL.r (rd_extract rfl rfl rfl) ?_
   refine AL.r (rd_extract rfl rfl rfl) ?_
   refine AL.ra ?_
   refine AL.ra ?_
   refine AL.nil ?_
   change AW _ _ _ _ _
   refine AW.seq ?_
   refine AW.region ?_
   refine AL.r (rd_tab0 rfl ag_53 rfl rfl) ?_
   refine AL.op rfl (AOpB.op (op_call (nil_vopen byteN) rfl (by kernel_rfl) rfl (none) ?_))
   rintro r rfl
   refine AL.no ?_
   refine AL.rm ?_
   refine AL.r (rd_extract rfl rfl rfl) ?_
   refine AL.r (rd_extract rfl rfl rfl) ?_
   refine AL.r (rd_extract rfl rfl rfl) ?_
   refine AL.ra ?_
   refine AL.ra ?_
   refine AL.ra ?_
   refine AL.nil ?_
   change AW _ _ _ _ _
   refine AW.seq ?_
   refine AW.seq ?_
   refine AW.region ?_
   refine AL.rm ?_
   refine AL.r (rd_bin rfl rfl rfl (fun _ => rfl)) ?_
   refine AL.rm ?_
   refine AL.fk (d := 35) rfl (fun h35 => ?_) (fun h35 => ?_)
   ·skip
    refine AL.n ?_
    refine AL.rf ?_
    refine AL.rf ?_
    refine AL.r (rd_pick_t rfl rfl rfl) ?_
    refine AL.rm ?_
    refine AL.rf ?_
    refine AL.rf ?_
    refine AL.r (rd_pick_t rfl rfl rfl) ?_
    refine AL.rm ?_
    refine AL.rf ?_
    refine AL.rf ?_
    refine AL.rf ?_
    refine AL.r (rd_pick_t rfl rfl rfl) ?_
    refine AL.rm ?_
    refine AL.rf ?_
    refine AL.rf ?_
    refine AL.r (rd_pick_t rfl rfl rfl) ?_
    refine AL.rm ?_
    refine AL.rf ?_
    refine AL.rf ?_
    refine AL.rf ?_
    refine AL.rf ?_
    refine AL.r (rd_pick_t rfl rfl rfl) ?_
    refine AL.rm ?_
    refine AL.rf ?_
    refine AL.rf ?_
    refine AL.rf ?_
    refine AL.r (rd_pick_t rfl rfl rfl) ?_
    refine AL.rm ?_
    refine AL.rf ?_
    refine AL.rf ?_
    refine AL.rf ?_
    refine AL.rf ?_
    refine AL.r (rd_pick_t rfl rfl rfl) ?_
    refine AL.rm ?_
    refine AL.rf ?_
    refine AL.rf ?_
    refine AL.rf ?_
    refine AL.r (rd_pick_t rfl rfl rfl) ?_
    refine AL.rm ?_
    refine AL.rf ?_
    refine AL.rf ?_
    refine AL.rf ?_
    refine AL.rf ?_
    refine AL.r (rd_pick_t rfl rfl rfl) ?_
    refine AL.rm ?_
    refine AL.rf ?_
    refine AL.rf ?_
    refine AL.rf ?_
    refine AL.r (rd_pick_t rfl rfl rfl) ?_
    refine AL.rm ?_
    refine AL.rf ?_
    refine AL.rf ?_
    refine AL.rf ?_
    refine AL.r (rd_pick_t rfl rfl rfl) ?_
    refine AL.nil ?_
    change AW _ _ _ _ _
    refine AW.cond_t rfl ?_
    refine AW.seq ?_
    exfalso; simp_all
   ·skip
    refine AL.n ?_
    refine AL.ro (rd_move rfl rfl) ?_
    refine AL.ro (rd_bin rfl rfl rfl (fun _ => rfl)) ?_
    refine AL.r (rd_pick_f rfl rfl rfl) ?_
    refine AL.rm ?_
    refine AL.fk (d := 39) rfl (fun h39 => ?_) (fun h39 => ?_)
    ·skip
     refine AL.n ?_
     refine AL.rf ?_
     refine AL.rf ?_
     refine AL.r (rd_pick_t rfl rfl rfl) ?_
     refine AL.rm ?_
     refine AL.rf ?_
     refine AL.rf ?_
     refine AL.rf ?_
     refine AL.r (rd_pick_t rfl rfl rfl) ?_
     refine AL.rm ?_
     refine AL.rf ?_
     refine AL.rf ?_
     refine AL.r (rd_pick_t rfl rfl rfl) ?_
     refine AL.rm ?_
     refine AL.rf ?_
     refine AL.rf ?_
     refine AL.rf ?_
     refine AL.rf ?_
     refine AL.r (rd_pick_t rfl rfl rfl) ?_
     refine AL.rm ?_
     refine AL.rf ?_
     refine AL.rf ?_
     refine AL.rf ?_
     refine AL.r (rd_pick_t rfl rfl rfl) ?_
     refine AL.rm ?_
     refine AL.rf ?_
     refine AL.rf ?_
     refine AL.rf ?_
     refine AL.rf ?_
     refine AL.r (rd_pick_t rfl rfl rfl) ?_
     refine AL.rm ?_
     refine AL.rf ?_
     refine AL.rf ?_
     refine AL.rf ?_
     refine AL.r (rd_pick_t rfl rfl rfl) ?_
     refine AL.rm ?_
     refine AL.rf ?_
     refine AL.rf ?_
     refine AL.rf ?_
     refine AL.rf ?_
     refine AL.r (rd_pick_t rfl rfl rfl) ?_
     refine AL.rm ?_
     refine AL.rf ?_
     refine AL.rf ?_
     refine AL.rf ?_
     refine AL.r (rd_pick_t rfl rfl rfl) ?_
     refine AL.rm ?_
     refine AL.rf ?_
     refine AL.rf ?_
     refine AL.rf ?_
     refine AL.r (rd_pick_t rfl rfl rfl) ?_
     refine AL.nil ?_
     change AW _ _ _ _ _
     refine AW.cond_t rfl ?_
     refine AW.seq ?_
     exfalso; simp_all
    ·skip
     refine AL.n ?_
     refine AL.ro (rd_move rfl rfl) ?_
     refine AL.ro (rd_bin rfl rfl rfl (fun _ => rfl)) ?_
     refine AL.r (rd_pick_f rfl rfl rfl) ?_
     refine AL.rm ?_
     refine AL.fk (d := 43) rfl (fun h43 => ?_) (fun h43 => ?_)
     ·skip
      refine AL.n ?_
      refine AL.rf ?_
      refine AL.rf ?_
      refine AL.rf ?_
      refine AL.r (rd_pick_t rfl rfl rfl) ?_
      refine AL.rm ?_
      refine AL.rf ?_
      refine AL.rf ?_
      refine AL.r (rd_pick_t rfl rfl rfl) ?_
      refine AL.rm ?_
      refine AL.rf ?_
      refine AL.rf ?_
      refine AL.rf ?_
      refine AL.rf ?_
      refine AL.r (rd_pick_t rfl rfl rfl) ?_
      refine AL.rm ?_
      refine AL.rf ?_
      refine AL.rf ?_
      refine AL.rf ?_
      refine AL.r (rd_pick_t rfl rfl rfl) ?_
      refine AL.rm ?_
      refine AL.rf ?_
      refine AL.rf ?_
      refine AL.rf ?_
      refine AL.rf ?_
      refine AL.r (rd_pick_t rfl rfl rfl) ?_
      refine AL.rm ?_
      refine AL.rf ?_
      refine AL.rf ?_
      refine AL.rf ?_
      refine AL.r (rd_pick_t rfl rfl rfl) ?_
      refine AL.rm ?_
      refine AL.rf ?_
      refine AL.rf ?_
      refine AL.rf ?_
      refine AL.rf ?_
      refine AL.r (rd_pick_t rfl rfl rfl) ?_
      refine AL.rm ?_
      refine AL.rf ?_
      refine AL.rf ?_
      refine AL.rf ?_
      refine AL.r (rd_pick_t rfl rfl rfl) ?_
      refine AL.rm ?_
      refine AL.rf ?_
      refine AL.rf ?_
      refine AL.rf ?_
      refine AL.r (rd_pick_t rfl rfl rfl) ?_
      refine AL.nil ?_
      change AW _ _ _ _ _
      refine AW.cond_t rfl ?_
      refine AW.seq ?_
      exfalso; simp_all
     ·skip
      refine AL.n ?_
      refine AL.ro (rd_move rfl rfl) ?_
      refine AL.ro (rd_len_sl rfl el_56 rfl) ?_
      refine AL.ro (rd_bin rfl rfl rfl (fun _ => rfl)) ?_
      refine AL.r (rd_pick_f rfl rfl rfl) ?_
      refine AL.rm ?_
      refine AL.fk (d := 48) rfl (fun h48 => ?_) (fun h48 => ?_)
      ·skip
       refine AL.n ?_
       refine AL.rf ?_
       refine AL.rf ?_
       refine AL.r (rd_pick_t rfl rfl rfl) ?_
       refine AL.rm ?_
       refine AL.rf ?_
       refine AL.rf ?_
       refine AL.rf ?_
       refine AL.rf ?_
       refine AL.r (rd_pick_t rfl rfl rfl) ?_
       refine AL.rm ?_
       refine AL.rf ?_
       refine AL.rf ?_
       refine AL.rf ?_
       refine AL.r (rd_pick_t rfl rfl rfl) ?_
       refine AL.rm ?_
       refine AL.rf ?_
       refine AL.rf ?_
       refine AL.rf ?_
       refine AL.rf ?_
       refine AL.r (rd_pick_t rfl rfl rfl) ?_
       refine AL.rm ?_
       refine AL.rf ?_
       refine AL.rf ?_
       refine AL.rf ?_
       refine AL.r (rd_pick_t rfl rfl rfl) ?_
       refine AL.rm ?_
       refine AL.rf ?_
       refine AL.rf ?_
       refine AL.rf ?_
       refine AL.rf ?_
       refine AL.r (rd_pick_t rfl rfl rfl) ?_
       refine AL.rm ?_
       refine AL.rf ?_
       refine AL.rf ?_
       refine AL.rf ?_
       refine AL.r (rd_pick_t rfl rfl rfl) ?_
       refine AL.rm ?_
       refine AL.rf ?_
       refine AL.rf ?_
       refine AL.rf ?_
       refine AL.r (rd_pick_t rfl rfl rfl) ?_
       refine AL.nil ?_
       change AW _ _ _ _ _
       refine AW.cond_t rfl ?_
       refine AW.seq ?_
       exfalso; simp_all
      ·skip
       refine AL.n ?_
       refine AL.ro (rd_move rfl rfl) ?_
       refine AL.ro (rd_bin rfl rfl rfl (fun _ => rfl)) ?_
       refine AL.r (rd_pick_f rfl rfl rfl) ?_
       refine AL.rm ?_
       refine AL.fk (d := 52) rfl (fun h52 => ?_) (fun h52 => ?_)
       ·skip
        refine AL.n ?_
        refine AL.rf ?_
        refine AL.rf ?_
        refine AL.rf ?_
        refine AL.rf ?_
        refine AL.r (rd_pick_t rfl rfl rfl) ?_
        refine AL.rm ?_
        refine AL.rf ?_
        refine AL.rf ?_
        refine AL.rf ?_
        refine AL.r (rd_pick_t rfl rfl rfl) ?_
        refine AL.rm ?_
        refine AL.rf ?_
        refine AL.rf ?_
        refine AL.rf ?_
        refine AL.rf ?_
        refine AL.r (rd_pick_t rfl rfl rfl) ?_
        refine AL.rm ?_
        refine AL.rf ?_
        refine AL.rf ?_
        refine AL.rf ?_
        refine AL.r (rd_pick_t rfl rfl rfl) ?_
        refine AL.rm ?_
        refine AL.rf ?_
        refine AL.rf ?_
        refine AL.rf ?_
        refine AL.rf ?_
        refine AL.r (rd_pick_t rfl rfl rfl) ?_
        refine AL.rm ?_
        refine AL.rf ?_
        refine AL.rf ?_
        refine AL.rf ?_
        refine AL.r (rd_pick_t rfl rfl rfl) ?_
        refine AL.rm ?_
        refine AL.rf ?_
        refine AL.rf ?_
        refine AL.rf ?_
        refine AL.r (rd_pick_t rfl rfl rfl) ?_
        refine AL.nil ?_
        change AW _ _ _ _ _
        refine AW.cond_t rfl ?_
        refine AW.seq ?_
        exfalso; simp_all
       ·skip
        refine AL.n ?_
        refine AL.ro (rd_move rfl rfl) ?_
        refine AL.ro (rd_move rfl rfl) ?_
        refine AL.on rfl rfl rfl (AOpB.op (op_call (nil_vadd b) rfl (by kernel_rfl) rfl (none) ?_))
        rintro r rfl
        refine AL.no ?_
        refine AL.ro (rd_bin rfl rfl rfl (fun _ => rfl)) ?_
        refine AL.r (rd_pick_f rfl rfl rfl) ?_
        refine AL.rm ?_
        refine AL.ro (rd_move rfl rfl) ?_
        refine AL.on rfl rfl rfl (AOpB.op (op_call (nil_vsync) rfl (by kernel_rfl) rfl (none) ?_))
        rintro r rfl
        refine AL.no ?_
        refine AL.ro (rd_bin rfl rfl rfl (fun _ => rfl)) ?_
        refine AL.r (rd_pick_f rfl rfl rfl) ?_
        refine AL.rm ?_
        refine AL.ro (rd_move rfl rfl) ?_
        refine AL.ro (rd_move rfl rfl) ?_
        refine AL.on rfl rfl rfl (AOpB.op (op_call (nil_vfold b) rfl (by kernel_rfl) rfl (none) ?_))
        rintro r rfl
        refine AL.no ?_
        refine AL.ro (rd_bin rfl rfl rfl (fun _ => rfl)) ?_
        refine AL.r (rd_pick_f rfl rfl rfl) ?_
        refine AL.rm ?_
        refine AL.ro (rd_move rfl rfl) ?_
        refine AL.on rfl rfl rfl (AOpB.op (op_call (nil_vepoch) rfl (by kernel_rfl) rfl (none) ?_))
        rintro r rfl
        refine AL.no ?_
        refine AL.ro (rd_bin rfl rfl rfl (fun _ => rfl)) ?_
        refine AL.r (rd_pick_f rfl rfl rfl) ?_
        refine AL.rm ?_
        refine AL.ro (rd_move rfl rfl) ?_
        refine AL.on rfl rfl rfl (AOpB.op (op_call (nil_vbytes) rfl (by kernel_rfl) rfl (none) ?_))
        rintro r rfl
        refine AL.no ?_
        refine AL.ro (rd_len_sl rfl el_29 rfl) ?_
        refine AL.ro (rd_bin rfl rfl rfl (fun _ => rfl)) ?_
        refine AL.r (rd_pick_f rfl rfl rfl) ?_
        refine AL.rm ?_
        refine AL.fk (d := 80) rfl (fun h80 => ?_) (fun h80 => ?_)
        ·skip
         refine AL.n ?_
         refine AL.rf ?_
         refine AL.rf ?_
         refine AL.rf ?_
         refine AL.r (rd_pick_t rfl rfl rfl) ?_
         refine AL.rm ?_
         refine AL.rf ?_
         refine AL.rf ?_
         refine AL.rf ?_
         refine AL.r (rd_pick_t rfl rfl rfl) ?_
         refine AL.nil ?_
         change AW _ _ _ _ _
         refine AW.cond_t rfl ?_
         refine AW.seq ?_
         exfalso; simp_all
        ·skip
         refine AL.n ?_
         refine AL.ro (rd_move rfl rfl) ?_
         refine AL.on rfl rfl rfl (AOpB.op (op_call (nil_vrecords) rfl (by kernel_rfl) rfl (none) ?_))
         rintro r rfl
         refine AL.no ?_
         refine AL.ro (rd_bin rfl rfl rfl (fun _ => rfl)) ?_
         refine AL.r (rd_pick_f rfl rfl rfl) ?_
         refine AL.rm ?_
         refine AL.ro (rd_move rfl rfl) ?_
         refine AL.on rfl rfl rfl (AOpB.op (op_call (nil_vfresh) rfl (by kernel_rfl) rfl (none) ?_))
         rintro r rfl
         refine AL.no ?_
         refine AL.ro (rd_bin rfl rfl rfl (fun _ => rfl)) ?_
         refine AL.r (rd_pick_f rfl rfl rfl) ?_
         refine AL.nil ?_
         change AW _ _ _ _ _
         refine AW.cond_f rfl ?_
         refine AW.skip ?_
         change AW _ _ _ _ _
         refine AW.seq ?_
         refine AW.region ?_
         refine AL.op rfl (calloV (od_new 2000 (by omega) 0) [0] ?_)
         rintro y os' ⟨rfl, rfl⟩
         refine AL.noV ?_
         refine AL.rm ?_
         refine AL.r (rd_extract rfl rfl rfl) ?_
         refine AL.r (rd_extract rfl rfl rfl) ?_
         refine AL.ra ?_
         refine AL.ra ?_
         refine AL.nil ?_
         change AW _ _ _ _ _
         refine AW.seq ?_
         refine AW.region ?_
         refine AL.rm ?_
         refine AL.r (rd_tab0 rfl ag_53 rfl rfl) ?_
         refine AL.op rfl (calloV (vcreate_c byteN byte_tab 1 0 0 0 (R := 2000) ⟨by omega, by omega⟩) [0, 1, 2, 3] ?_)
         rintro y os' ⟨rfl, rfl⟩
         refine AL.noV ?_
         refine AL.rm ?_
         refine AL.r (rd_extract rfl rfl rfl) ?_
         refine AL.r (rd_extract rfl rfl rfl) ?_
         refine AL.ra ?_
         refine AL.ra ?_
         refine AL.nil ?_
         change AW _ _ _ _ _
         refine AW.seq ?_
         refine AW.region ?_
         refine AL.rm ?_
         refine AL.op rfl (calloV (od_fuse mD0 1 0) [0] ?_)
         rintro y os' ⟨rfl, rfl⟩
         refine AL.noV ?_
         refine AL.nil ?_
         change AW _ _ _ _ _
         refine AW.seq ?_
         refine AW.region ?_
         refine AL.rm ?_
         refine AL.op rfl (calloV (ok_sync m_Ok1 (by omega) 1) [0] ?_)
         rintro y os' ⟨rfl, rfl⟩
         refine AL.noV ?_
         refine AL.nil ?_
         change AW _ _ _ _ _
         refine AW.seq ?_
         refine AW.region ?_
         refine AL.rm ?_
         refine AL.r (rd_tab0 rfl ag_53 rfl rfl) ?_
         refine AL.op rfl (calloV (vcreate_dk byteN mD2 m_Ok2 (by omega) 1 m_dark) [0] ?_)
         rintro y os' ⟨rfl, rfl⟩
         refine AL.noV ?_
         refine AL.rm ?_
         refine AL.r (rd_extract rfl rfl rfl) ?_
         refine AL.r (rd_extract rfl rfl rfl) ?_
         refine AL.ra ?_
         refine AL.ra ?_
         refine AL.nil ?_
         change AW _ _ _ _ _
         refine AW.seq ?_
         refine AW.seq ?_
         refine AW.region ?_
         refine AL.rm ?_
         refine AL.r (rd_pne_nil rfl pt_83 rfl rfl) ?_
         refine AL.rm ?_
         refine AL.ro (rd_move rfl rfl) ?_
         refine AL.ro (rd_bin rfl rfl rfl (fun _ => rfl)) ?_
         refine AL.r (rd_pick_f rfl rfl rfl) ?_
         refine AL.rm ?_
         refine AL.ro (rd_move rfl rfl) ?_
         refine AL.ro (rd_move rfl rfl) ?_
         refine AL.on rfl rfl rfl (calloV (vadd_dn 1 1 1 1 byteN byte_tab wV0 S0 wL0 mD2 m_Ok2 (by omega) w_LOk0 b (by rw [m_dark, Bool.or_true])) [3, 1, 2, 0] ?_)
         rintro y os' ⟨rfl, rfl⟩
         refine AL.noV ?_
         refine AL.ro (rd_bin rfl rfl rfl (fun _ => rfl)) ?_
         refine AL.r (rd_pick_f rfl rfl rfl) ?_
         refine AL.rm ?_
         refine AL.ro (rd_move rfl rfl) ?_
         refine AL.on rfl rfl rfl (calloV (vsync_dn 1 1 1 1 byteN mV1 S0 wL0 mD2 m_Ok2 (by omega) rfl) [3, 1, 2, 0] ?_)
         rintro y os' ⟨rfl, rfl⟩
         refine AL.noV ?_
         refine AL.ro (rd_bin rfl rfl rfl (fun _ => rfl)) ?_
         refine AL.r (rd_pick_f rfl rfl rfl) ?_
         refine AL.rm ?_
         refine AL.ro (rd_move rfl rfl) ?_
         refine AL.ro (rd_move rfl rfl) ?_
         refine AL.on rfl rfl rfl (calloV (vfold_dn 1 1 1 1 byteN mV1 S0 wL0 mD2 b rfl) [3, 1, 2, 0] ?_)
         rintro y os' ⟨rfl, rfl⟩
         refine AL.noV ?_
         refine AL.ro (rd_bin rfl rfl rfl (fun _ => rfl)) ?_
         refine AL.r (rd_pick_f rfl rfl rfl) ?_
         refine AL.nil ?_
         change AW _ _ _ _ _
         refine AW.cond_f rfl ?_
         refine AW.skip ?_
         change AW _ _ _ _ _
         refine AW.seq ?_
         refine AW.region ?_
         refine AL.rm ?_
         refine AL.op rfl (calloV (ok_crash m_Ok2 (by omega) 1 0 (by omega)) [0] ?_)
         rintro y os' ⟨rfl, rfl⟩
         refine AL.noV ?_
         refine AL.nil ?_
         change AW _ _ _ _ _
         refine AW.seq ?_
         refine AW.region ?_
         refine AL.rm ?_
         refine AL.rm ?_
         refine AL.op rfl (calloV (vadd_dn 1 1 1 1 byteN byte_tab mV1 S0 wL0 (crashD mD2 0) (m_Ok2.crash 0) (by omega) w_LOk0 b rfl) [3, 1, 2, 0] ?_)
         rintro y os' ⟨rfl, rfl⟩
         refine AL.noV ?_
         refine AL.r (rd_bin rfl rfl rfl (fun _ => rfl)) ?_
         refine AL.rm ?_
         refine AL.ro (rd_move rfl rfl) ?_
         refine AL.ro (rd_move rfl rfl) ?_
         refine AL.on rfl rfl rfl (calloV (vfold_dn 1 1 1 1 byteN mV1 S0 wL0 (crashD mD2 0) b rfl) [3, 1, 2, 0] ?_)
         rintro y os' ⟨rfl, rfl⟩
         refine AL.noV ?_
         refine AL.ro (rd_bin rfl rfl rfl (fun _ => rfl)) ?_
         refine AL.r (rd_pick_t rfl rfl rfl) ?_
         refine AL.rm ?_
         refine AL.ro (rd_move rfl rfl) ?_
         refine AL.on rfl rfl rfl (calloV (vrecords_c 1 1 1 1 byteN mV1 S0 wL0 (crashD mD2 0)) [3, 1, 2, 0] ?_)
         rintro y os' ⟨rfl, rfl⟩
         refine AL.noV ?_
         refine AL.ro (rd_bin rfl rfl rfl (fun _ => rfl)) ?_
         refine AL.r (rd_pick_t rfl rfl rfl) ?_
         refine AL.rm ?_
         refine AL.ro (rd_move rfl rfl) ?_
         refine AL.on rfl rfl rfl (calloV (vepoch_c 1 1 1 1 byteN mV1 S0 wL0 (crashD mD2 0)) [3, 1, 2, 0] ?_)
         rintro y os' ⟨rfl, rfl⟩
         refine AL.noV ?_
         refine AL.ro (rd_bin rfl rfl rfl (fun _ => rfl)) ?_
         refine AL.r (rd_pick_t rfl rfl rfl) ?_
         refine AL.ra ?_
         refine AL.nil ?_
         change AW _ _ _ _ _
         refine AW.ret ?_
         change ResA _ _ _ _ _
         refine res1 rfl (ResV.tmp rfl) rfl ?_
         rfl
theorem walk_VaultNil (w : World) (v0 : Value) (b0 : List UInt8) (hb0 : b0.length ≤ maxLen) (rp0 : RepS AnyB w v0 (.sl (byA b0))) :
    Calls Try.prog 15 #[v0] w fun e w' => e = .returned (.bool true) ∧ Below w.heap.size w w' :=
  (vaultNil_c b0).law (vs := [v0]) rfl (rep_cons rp0 rep_nil)
end Go.Proofs.Ytgjpeldgjpgbcaa
