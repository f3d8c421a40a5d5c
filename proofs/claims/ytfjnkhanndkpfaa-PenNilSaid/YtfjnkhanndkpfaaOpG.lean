/- The law OpOrders, walked over abstract states. No conditions. -/
import Derived.Test.YtfjnkhanndkpfaaOpE
namespace Go.Proofs.Ytfjnkhanndkpfaa
set_option linter.unusedSimpArgs false
set_option linter.unusedVariables false
set_option maxRecDepth 100000
open Go.RowKit

/-- The example's op. -/
def exO (nm : Bytes) : OpD := ⟨⟨1, 1⟩, ⟨0, 0⟩, 1, [97], 3, [112, 101, 97, 114], ⟨1, [], nm⟩, 3, false, [], []⟩
theorem drops0_c (nm : Bytes) : AC Try.prog 128 [(exO nm).av] (fun r => r = .s (AB true)) := by
  change AC _ _ [.ag [AI 1, AI 1, AI 0, AI 0, AI 1, AS [97], AI 3, AS [112, 101, 97, 114], AI 1, AS [], AS nm, AI 3, AB false, AS [], .sl []]] _
  refine AC.of' 39 2 Try.func128 rfl ?_
  change AW _ _ _ _ [TK.mk 0 .off, TK.mk 0 .off]
  refine AW.seq ?_
  refine AW.region ?_
  refine AL.op rfl (AOpB.op (op_box 0 rfl rfl rfl rfl rfl ?_))
  refine AL.n ?_
  refine AL.ra ?_
  refine AL.nil ?_
  change AW _ _ _ _ _
  refine AW.seq ?_
  refine AW.seq ?_
  refine AW.region ?_
  refine AL.r (rd_faddr_bx rfl fo_47_10 rfl rfl ⟨_, _, rfl⟩) ?_
  refine AL.r (rd_load_bx rfl ag_45 rfl rfl rfl) ?_
  refine AL.r (rd_len_sl rfl el_45 rfl) ?_
  refine AL.r (rd_bin rfl rfl rfl (fun _ => rfl)) ?_
  refine AL.nil ?_
  change AW _ _ _ _ _
  refine AW.cd rfl (fun h8 => ?_) (fun h8 => ?_)
  ·skip
   refine AW.seq ?_
   exact absurd h8 (by decide)
  ·skip
   refine AW.skip ?_
   change AW _ _ _ _ _
   refine AW.seq ?_
   refine AW.seq ?_
   refine AW.region ?_
   refine AL.r (rd_faddr_bx rfl fo_47_10 rfl rfl ⟨_, _, rfl⟩) ?_
   refine AL.r (rd_load_bx rfl ag_45 rfl rfl rfl) ?_
   refine AL.r (rd_len_sl rfl el_45 rfl) ?_
   refine AL.rm ?_
   refine AL.nil ?_
   change AW _ _ _ _ _
   refine AW.block ?_
   refine AW.loopM (ι := Nat) [2, 3, 4, 13, 14, 15, 16, 17, 18, 19, 20, 21, 22, 23, 24, 25, 26, 27, 28, 29, 30, 31, 32, 33, 34, 35, 36, 37, 38, 39] (fun k => [(12, AI (k : Int))]) [1] (fun k => []) (fun k => k = 0) (fun k => k) 0 (rfl) (by simp only [anys, upds, offs, List.set_cons_zero, List.set_cons_succ]; repeat (first | exact Wk.nil | refine Wk.same ?_ | refine Wk.any ?_)) (by simp only [anys, upds, offs, List.set_cons_zero, List.set_cons_succ]; repeat (first | exact Sk.nil _ | refine Sk.same _ ?_ | refine Sk.scr _ (by decide) ?_)) ?_
   rintro k gs hJ
   refine AW.norm (by simp only [anys, upds, offs, List.set_cons_zero, List.set_cons_succ]; rfl) (by (try simp only [anys, upds, offs, List.set_cons_zero, List.set_cons_succ]); (try rfl)) ?_
   (obtain rfl : k = 0 := hJ)
   refine AW.seq ?_
   refine AW.region ?_
   refine AL.r (rd_bin rfl rfl rfl (fun _ => rfl)) ?_
   refine AL.nil ?_
   change AW _ _ _ _ _
   refine AW.seq ?_
   refine AW.cd rfl (fun h13 => ?_) (fun h13 => ?_)
   ·skip
    refine AW.skip ?_
    change AW _ _ _ _ _
    refine AW.seq ?_
    refine AW.block ?_
    refine AW.seq ?_
    exact absurd h13 (by decide)
   ·skip
    refine AW.exit ?_
    change AW _ _ _ _ _
    refine AW.seq ?_
    refine AW.region ?_
    refine AL.ra ?_
    refine AL.nil ?_
    change AW _ _ _ _ _
    refine AW.ret ?_
    change ResA _ _ _ _ _
    refine res1 rfl (ResV.tmp rfl) rfl ?_
    rfl
theorem oright_c (nm : Bytes) (hp : placeB ⟨1, [], nm⟩ = true) : AC Try.prog 70 [(exO nm).av] (fun r => r = .s (AB true)) := by
  change AC _ _ [.ag [AI 1, AI 1, AI 0, AI 0, AI 1, AS [97], AI 3, AS [112, 101, 97, 114], AI 1, AS [], AS nm, AI 3, AB false, AS [], .sl []]] _
  refine AC.of' 96 2 Try.func70 rfl ?_
  change AW _ _ _ _ [TK.mk 0 .off, TK.mk 0 .off]
  refine AW.seq ?_
  refine AW.region ?_
  refine AL.op rfl (AOpB.op (op_box 0 rfl rfl rfl rfl rfl ?_))
  refine AL.n ?_
  refine AL.ra ?_
  refine AL.nil ?_
  change AW _ _ _ _ _
  refine AW.seq ?_
  refine AW.region ?_
  refine AL.r (rd_loadN_bx rfl ag_47 rfl rfl (Nat.le_of_ble_eq_true rfl) rfl) ?_
  refine AL.op rfl (AOpB.op (op_call (parts3_c (exO nm) rfl) rfl (by kernel_rfl) rfl (none) ?_))
  rintro r rfl
  refine AL.n ?_
  rw [show (parts3 (exO nm)).av = AV.ag [AI 1, AI 1, AI 0, AI 0, AI 1, AS [97], AI 3, AS [112, 101, 97, 114], AI 1, AS [], AS nm, AI 3, AB false, AS [], .sl []] from rfl]
  refine AL.rm ?_
  refine AL.r (rd_extract rfl rfl rfl) ?_
  refine AL.r (rd_extract rfl rfl rfl) ?_
  refine AL.op rfl (AOpB.op (op_alloc 1 rfl ze_47 rfl ?_))
  refine AL.n ?_
  refine AL.op rfl (op_store_ rfl rfl rfl rfl rfl sz_47 ?_)
  refine AL.b ?_
  refine AL.ra ?_
  refine AL.nil ?_
  change AW _ _ _ _ _
  refine AW.seq ?_
  refine AW.seq ?_
  refine AW.region ?_
  refine AL.rm ?_
  refine AL.r (rd_un rfl rfl (fun _ => rfl)) ?_
  refine AL.rm ?_
  refine AL.fk (d := 13) rfl (fun h13 => ?_) (fun h13 => ?_)
  ·skip
   cases h13
  ·skip
   refine AL.n ?_
   refine AL.ro (rd_loadN_bx rfl ag_47 rfl rfl (Nat.le_of_ble_eq_true rfl) rfl) ?_
   refine AL.ro (rd_loadN_bx rfl ag_47 rfl rfl (Nat.le_of_ble_eq_true rfl) rfl) ?_
   refine AL.on rfl rfl rfl (AOpB.op (op_call (osame_c (exO nm) (parts3 (exO nm))) rfl (by kernel_rfl) rfl (none) ?_))
   rintro r rfl
   refine AL.n ?_
   refine AL.ro (rd_un rfl rfl (fun _ => rfl)) ?_
   refine AL.r (rd_pick_f rfl rfl rfl) ?_
   refine AL.nil ?_
   change AW _ _ _ _ _
   refine AW.cd rfl (fun h18 => ?_) (fun h18 => ?_)
   ·skip
    refine AW.seq ?_
    exact absurd rfl h18
   ·skip
    refine AW.skip ?_
    change AW _ _ _ _ _
    refine AW.seq ?_
    refine AW.seq ?_
    refine AW.region ?_
    refine AL.r (rd_faddr_bx rfl fo_47_0 rfl rfl ⟨_, _, rfl⟩) ?_
    refine AL.r (rd_loadN_bx rfl ag_44 rfl rfl (Nat.le_of_ble_eq_true rfl) rfl) ?_
    refine AL.op rfl (AOpB.op (op_call (tag_c ⟨1, 1⟩) rfl (by kernel_rfl) rfl (none) ?_))
    rintro r rfl
    refine AL.n ?_
    refine AL.r (rd_un rfl rfl (fun _ => rfl)) ?_
    refine AL.rm ?_
    refine AL.fk (d := 23) rfl (fun h23 => ?_) (fun h23 => ?_)
    ·skip
     exact absurd h23 (by decide)
    ·skip
     refine AL.n ?_
     refine AL.ro (rd_faddr_bx rfl fo_47_1 rfl rfl ⟨_, _, rfl⟩) ?_
     refine AL.ro (rd_loadN_bx rfl ag_44 rfl rfl (Nat.le_of_ble_eq_true rfl) rfl) ?_
     refine AL.ro (rd_build rfl pl_44 ze_44 rfl rfl) ?_
     refine AL.ro (rd_ne_Tag rfl rfl rfl) ?_
     refine AL.ro (rd_move rfl rfl) ?_
     refine AL.fk (d := 28) rfl (fun h28 => ?_) (fun h28 => ?_)
     ·skip
      exact absurd trivial h28
     ·skip
      refine AL.n ?_
      refine AL.rf ?_
      refine AL.rf ?_
      refine AL.rf ?_
      refine AL.rf ?_
      refine AL.ro (rd_pick_f rfl rfl rfl) ?_
      refine AL.r (rd_pick_f rfl rfl rfl) ?_
      refine AL.nil ?_
      change AW _ _ _ _ _
      refine AW.cond_f rfl ?_
      refine AW.skip ?_
      change AW _ _ _ _ _
      refine AW.seq ?_
      refine AW.seq ?_
      refine AW.region ?_
      refine AL.r (rd_faddr_bx rfl fo_47_2 rfl rfl ⟨_, _, rfl⟩) ?_
      refine AL.r (rd_load_bx rfl ag_2 rfl rfl rfl) ?_
      refine AL.r (rd_bin rfl rfl rfl (fun _ => rfl)) ?_
      refine AL.rm ?_
      refine AL.fk (d := 38) rfl (fun h38 => ?_) (fun h38 => ?_)
      ·skip
       exact absurd h38 (by decide)
      ·skip
       refine AL.n ?_
       refine AL.ro (rd_faddr_bx rfl fo_47_2 rfl rfl ⟨_, _, rfl⟩) ?_
       refine AL.ro (rd_load_bx rfl ag_2 rfl rfl rfl) ?_
       refine AL.ro (rd_bin rfl rfl rfl (fun _ => rfl)) ?_
       refine AL.r (rd_pick_f rfl rfl rfl) ?_
       refine AL.rm ?_
       refine AL.fk (d := 43) rfl (fun h43 => ?_) (fun h43 => ?_)
       ·skip
        exact absurd h43 (by decide)
       ·skip
        refine AL.n ?_
        refine AL.ro (rd_faddr_bx rfl fo_47_3 rfl rfl ⟨_, _, rfl⟩) ?_
        refine AL.ro (rd_load_bx rfl ag_9 rfl rfl rfl) ?_
        refine AL.on rfl rfl rfl (AOpB.op (op_call (name_c [97]) rfl (by kernel_rfl) rfl (none) ?_))
        rintro r rfl
        refine AL.n ?_
        refine AL.ro (rd_un rfl rfl (fun _ => rfl)) ?_
        refine AL.r (rd_pick_f rfl rfl rfl) ?_
        refine AL.nil ?_
        change AW _ _ _ _ _
        refine AW.cd rfl (fun h48 => ?_) (fun h48 => ?_)
        ·skip
         refine AW.seq ?_
         exact absurd h48 (by decide +kernel)
        ·skip
         refine AW.skip ?_
         change AW _ _ _ _ _
         refine AW.seq ?_
         refine AW.seq ?_
         refine AW.region ?_
         refine AL.r (rd_loadN_bx rfl ag_47 rfl rfl (Nat.le_of_ble_eq_true rfl) rfl) ?_
         refine AL.op rfl (AOpB.op (op_call (placed_c (exO nm)) rfl (by kernel_rfl) rfl (none) ?_))
         rintro r rfl
         refine AL.n ?_
         refine AL.rm ?_
         refine AL.fk (d := 51) rfl (fun h51 => ?_) (fun h51 => ?_)
         ·skip
          refine AL.n ?_
          refine AL.ro (rd_faddr_bx rfl fo_47_6 rfl rfl ⟨_, _, rfl⟩) ?_
          refine AL.ro (rd_loadN_bx rfl ag_27 rfl rfl (Nat.le_of_ble_eq_true rfl) rfl) ?_
          refine AL.on rfl rfl rfl (AOpB.op (op_call (place_c ⟨1, [], nm⟩) rfl (by kernel_rfl) rfl (none) ?_))
          rintro r rfl
          refine AL.n ?_
          refine AL.ro (rd_un rfl rfl (fun _ => rfl)) ?_
          refine AL.r (rd_pick_t rfl rfl rfl) ?_
          refine AL.nil ?_
          change AW _ _ _ _ _
          refine AW.cd rfl (fun h56 => ?_) (fun h56 => ?_)
          ·skip
           refine AW.seq ?_
           exact absurd (hp.symm.trans h56) (by decide)
          ·skip
           refine AW.skip ?_
           change AW _ _ _ _ _
           refine AW.seq ?_
           refine AW.region ?_
           refine AL.r (rd_faddr_bx rfl fo_47_4 rfl rfl ⟨_, _, rfl⟩) ?_
           refine AL.r (rd_load_bx rfl ag_3 rfl rfl rfl) ?_
           refine AL.r (rd_bin rfl rfl rfl (fun _ => rfl)) ?_
           refine AL.rm ?_
           refine AL.fk (d := 60) rfl (fun h60 => ?_) (fun h60 => ?_)
           ·skip
            exact absurd h60 (by decide)
           ·skip
            refine AL.n ?_
            refine AL.ro (rd_faddr_bx rfl fo_47_4 rfl rfl ⟨_, _, rfl⟩) ?_
            refine AL.ro (rd_load_bx rfl ag_3 rfl rfl rfl) ?_
            refine AL.ro (rd_bin rfl rfl rfl (fun _ => rfl)) ?_
            refine AL.r (rd_pick_f rfl rfl rfl) ?_
            refine AL.rm ?_
            refine AL.fk (d := 65) rfl (fun h65 => ?_) (fun h65 => ?_)
            ·skip
             exact absurd h65 (by decide)
            ·skip
             refine AL.n ?_
             refine AL.ro (rd_loadN_bx rfl ag_47 rfl rfl (Nat.le_of_ble_eq_true rfl) rfl) ?_
             refine AL.on rfl rfl rfl (AOpB.op (op_call (placed_c (exO nm)) rfl (by kernel_rfl) rfl (none) ?_))
             rintro r rfl
             refine AL.n ?_
             refine AL.ro (rd_move rfl rfl) ?_
             refine AL.fk (d := 68) rfl (fun h68 => ?_) (fun h68 => ?_)
             ·skip
              refine AL.n ?_
              refine AL.ro (rd_faddr_bx rfl fo_47_6 rfl rfl ⟨_, _, rfl⟩) ?_
              refine AL.ro (rd_faddr_bx rfl fo_27_0 rfl rfl ⟨_, _, rfl⟩) ?_
              refine AL.ro (rd_load_bx rfl ag_3 rfl rfl rfl) ?_
              refine AL.ro (rd_bin rfl rfl rfl (fun _ => rfl)) ?_
              refine AL.ro (rd_pick_t rfl rfl rfl) ?_
              refine AL.r (rd_pick_f rfl rfl rfl) ?_
              refine AL.ra ?_
              refine AL.nil ?_
              change AW _ _ _ _ _
              refine AW.seq ?_
              refine AW.seq ?_
              refine AW.region ?_
              refine AL.rm ?_
              refine AL.rm ?_
              refine AL.fk (d := 76) rfl (fun h76 => ?_) (fun h76 => ?_)
              ·skip
               refine AL.n ?_
               refine AL.ro (rd_faddr_bx rfl fo_47_5 rfl rfl ⟨_, _, rfl⟩) ?_
               refine AL.ro (rd_load_bx rfl ag_9 rfl rfl rfl) ?_
               refine AL.on rfl rfl rfl (AOpB.op (op_call (name_c [112, 101, 97, 114]) rfl (by kernel_rfl) rfl (none) ?_))
               rintro r rfl
               refine AL.n ?_
               refine AL.ro (rd_un rfl rfl (fun _ => rfl)) ?_
               refine AL.r (rd_pick_t rfl rfl rfl) ?_
               refine AL.nil ?_
               change AW _ _ _ _ _
               refine AW.cd rfl (fun h81 => ?_) (fun h81 => ?_)
               ·skip
                refine AW.seq ?_
                exact absurd h81 (by decide +kernel)
               ·skip
                refine AW.skip ?_
                change AW _ _ _ _ _
                refine AW.seq ?_
                refine AW.seq ?_
                refine AW.region ?_
                refine AL.r (rd_faddr_bx rfl fo_47_7 rfl rfl ⟨_, _, rfl⟩) ?_
                refine AL.r (rd_load_bx rfl ag_2 rfl rfl rfl) ?_
                refine AL.r (rd_bin rfl rfl rfl (fun _ => rfl)) ?_
                refine AL.rm ?_
                refine AL.fk (d := 85) rfl (fun h85 => ?_) (fun h85 => ?_)
                ·skip
                 exact absurd h85 (by decide)
                ·skip
                 refine AL.n ?_
                 refine AL.ro (rd_faddr_bx rfl fo_47_7 rfl rfl ⟨_, _, rfl⟩) ?_
                 refine AL.ro (rd_load_bx rfl ag_2 rfl rfl rfl) ?_
                 refine AL.ro (rd_bin rfl rfl rfl (fun _ => rfl)) ?_
                 refine AL.r (rd_pick_f rfl rfl rfl) ?_
                 refine AL.nil ?_
                 change AW _ _ _ _ _
                 refine AW.cd rfl (fun h89 => ?_) (fun h89 => ?_)
                 ·skip
                  refine AW.seq ?_
                  exact absurd h89 (by decide)
                 ·skip
                  refine AW.skip ?_
                  change AW _ _ _ _ _
                  refine AW.seq ?_
                  refine AW.region ?_
                  refine AL.r (rd_faddr_bx rfl fo_47_9 rfl rfl ⟨_, _, rfl⟩) ?_
                  refine AL.r (rd_load_bx rfl ag_9 rfl rfl rfl) ?_
                  refine AL.op rfl (AOpB.op (op_call (text_c []) rfl (by kernel_rfl) rfl (none) ?_))
                  rintro r rfl
                  refine AL.n ?_
                  refine AL.rm ?_
                  refine AL.fk (d := 93) rfl (fun h93 => ?_) (fun h93 => ?_)
                  ·skip
                   refine AL.n ?_
                   refine AL.ro (rd_loadN_bx rfl ag_47 rfl rfl (Nat.le_of_ble_eq_true rfl) rfl) ?_
                   refine AL.on rfl rfl rfl (AOpB.op (op_call (drops0_c nm) rfl (by kernel_rfl) rfl (none) ?_))
                   rintro r rfl
                   refine AL.n ?_
                   refine AL.r (rd_pick_t rfl rfl rfl) ?_
                   refine AL.ra ?_
                   refine AL.nil ?_
                   change AW _ _ _ _ _
                   refine AW.ret ?_
                   change ResA _ _ _ _ _
                   refine res1 rfl (ResV.tmp rfl) rfl ?_
                   rfl
                  ·skip
                   exact absurd h93 (by decide +kernel)
              ·skip
               exact absurd trivial h76
             ·skip
              simp [exO] at h68
         ·skip
          simp [exO] at h51
theorem root_small : smallS rootD := by
  refine ⟨by decide, ?_⟩
  intro f hf
  have : rootD.all (fun f => decide (f.cases.length ≤ 1000000)) = true := by decide +kernel
  simpa using List.all_eq_true.1 this f hf
theorem ofits_c (nm : Bytes) (hp : placeB ⟨1, [], nm⟩ = true) (h0 : (findS rootD ⟨1, [], nm⟩).2 = 0) : AC Try.prog 121 [.sl (rootD.map FldD.cs), (exO nm).av] (fun r => r = .s (AB (decide ((findS rootD ⟨1, [], nm⟩).1.kind = 1)))) := by
  generalize hq : findS rootD ⟨1, [], nm⟩ = q at h0
  change AC _ _ [.sl (rootD.map FldD.cs), .ag [AI 1, AI 1, AI 0, AI 0, AI 1, AS [97], AI 3, AS [112, 101, 97, 114], AI 1, AS [], AS nm, AI 3, AB false, AS [], .sl []]] _
  refine AC.of' 35 2 Try.func121 rfl ?_
  change AW _ _ _ _ [TK.mk 0 .off, TK.mk 0 .off]
  refine AW.seq ?_
  refine AW.region ?_
  refine AL.op rfl (AOpB.op (op_box 0 rfl rfl rfl rfl rfl ?_))
  refine AL.n ?_
  refine AL.ra ?_
  refine AL.nil ?_
  change AW _ _ _ _ _
  refine AW.seq ?_
  refine AW.seq ?_
  refine AW.region ?_
  refine AL.r (rd_loadN_bx rfl ag_47 rfl rfl (Nat.le_of_ble_eq_true rfl) rfl) ?_
  refine AL.op rfl (AOpB.op (op_call (oright_c nm hp) rfl (by kernel_rfl) rfl (none) ?_))
  rintro r rfl
  refine AL.n ?_
  refine AL.r (rd_un rfl rfl (fun _ => rfl)) ?_
  refine AL.nil ?_
  change AW _ _ _ _ _
  refine AW.cd rfl (fun h9 => ?_) (fun h9 => ?_)
  ·skip
   refine AW.seq ?_
   cases h9
  ·skip
   refine AW.skip ?_
   change AW _ _ _ _ _
   refine AW.seq ?_
   refine AW.seq ?_
   refine AW.region ?_
   refine AL.r (rd_loadN_bx rfl ag_47 rfl rfl (Nat.le_of_ble_eq_true rfl) rfl) ?_
   refine AL.op rfl (AOpB.op (op_call (placed_c (exO nm)) rfl (by kernel_rfl) rfl (none) ?_))
   rintro r rfl
   refine AL.n ?_
   refine AL.r (rd_un rfl rfl (fun _ => rfl)) ?_
   refine AL.nil ?_
   change AW _ _ _ _ _
   refine AW.cd rfl (fun h12 => ?_) (fun h12 => ?_)
   ·skip
    refine AW.seq ?_
    simp [exO] at h12
   ·skip
    refine AW.skip ?_
    change AW _ _ _ _ _
    refine AW.seq ?_
    refine AW.region ?_
    refine AL.rm ?_
    refine AL.r (rd_faddr_bx rfl fo_47_6 rfl rfl ⟨_, _, rfl⟩) ?_
    refine AL.r (rd_loadN_bx rfl ag_27 rfl rfl (Nat.le_of_ble_eq_true rfl) rfl) ?_
    refine AL.op rfl (AOpB.op (op_call (sfind_c rootD ⟨1, [], nm⟩ root_small) rfl (by kernel_rfl) rfl (none) ?_))
    rintro r rfl
    refine AL.n ?_
    rw [hq]
    refine AL.rm ?_
    refine AL.r (rd_extract rfl rfl rfl) ?_
    refine AL.r (rd_extract rfl rfl rfl) ?_
    refine AL.op rfl (AOpB.op (op_alloc 1 rfl ze_30 rfl ?_))
    refine AL.n ?_
    refine AL.op rfl (op_store_ rfl rfl rfl rfl rfl sz_30 ?_)
    refine AL.n ?_
    refine AL.ra ?_
    refine AL.nil ?_
    change AW _ _ _ _ _
    refine AW.seq ?_
    refine AW.seq ?_
    refine AW.region ?_
    refine AL.rm ?_
    refine AL.r (rd_bin rfl rfl rfl (fun _ => rfl)) ?_
    refine AL.nil ?_
    change AW _ _ _ _ _
    refine AW.cd rfl (fun h21 => ?_) (fun h21 => ?_)
    ·skip
     refine AW.seq ?_
     exact absurd h0 h21
    ·skip
     refine AW.skip ?_
     change AW _ _ _ _ _
     refine AW.seq ?_
     refine AW.seq ?_
     refine AW.region ?_
     refine AL.r (rd_faddr_bx rfl fo_47_4 rfl rfl ⟨_, _, rfl⟩) ?_
     refine AL.r (rd_load_bx rfl ag_3 rfl rfl rfl) ?_
     refine AL.r (rd_bin rfl rfl rfl (fun _ => rfl)) ?_
     refine AL.nil ?_
     change AW _ _ _ _ _
     refine AW.cd rfl (fun h24 => ?_) (fun h24 => ?_)
     ·skip
      refine AW.seq ?_
      refine AW.region ?_
      refine AL.r (rd_faddr_bx rfl fo_30_1 rfl rfl ⟨_, _, rfl⟩) ?_
      refine AL.r (rd_load_bx rfl ag_3 rfl rfl rfl) ?_
      refine AL.r (rd_bin rfl rfl rfl (fun _ => rfl)) ?_
      refine AL.ra ?_
      refine AL.nil ?_
      change AW _ _ _ _ _
      refine AW.ret ?_
      change ResA _ _ _ _ _
      refine res1 rfl (ResV.tmp rfl) rfl ?_
      rfl
     ·skip
      refine AW.skip ?_
      change AW _ _ _ _ _
      refine AW.seq ?_
      refine AW.seq ?_
      first | exact absurd rfl h24 | exact absurd trivial h24
end Go.Proofs.Ytfjnkhanndkpfaa
