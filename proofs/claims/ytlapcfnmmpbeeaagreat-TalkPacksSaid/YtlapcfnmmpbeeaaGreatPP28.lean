/- Texts of the proof of talkPacks_holds, put together by a program: OpU. -/
import Derived.Test.YtlapcfnmmpbeeaaGreatPP27
set_option linter.unusedSimpArgs false
set_option linter.unusedVariables false
namespace Go.Proofs.YtlapcfnmmpbeeaaGreat
set_option maxRecDepth 100000
open Go.RowKit
set_option maxHeartbeats 2000000 in
theorem oright_r (o : OpD) : AC Tryz.prog 30 [o.av] (fun r => r = .s (AB (rightO o))) := by
  rw [← right_same]
  change AC _ _ [.ag [AI o.id.rep, AI o.id.n, AI o.schema.rep, AI o.schema.n, AI o.time, AS o.cart, AI o.kind, AS o.item, AI o.at_.scope, AS o.at_.group, AS o.at_.name, AI o.delta, AB o.has, AS o.text, .sl (o.drops.map TagD.cs)]] _; refine AC.of' 157 1 Tryz.func30 rfl ?_; change AW _ _ _ _ [TK.mk 0 .off]; refine AW.seq (AW.region (AL.op rfl (AOpB.op (op_box 0 rfl rfl rfl rfl rfl ?_)))); refine AL.n ?_; refine AL.ra ?_; refine AL.nil (AW.join (ι := Unit) [2, 3, 4, 5, 6, 7, 8, 9, 10, 11, 12, 13, 14, 15, 16, 17, 18, 19, 20, 21, 22, 23, 24, 25, 26, 27, 28, 29, 30, 31, 32, 33, 34, 35, 36, 37, 38, 39] (fun u39 => []) [] (fun u39 => []) (fun u39 => tagB o.id = true ∧ (decide (o.schema = ⟨0, 0⟩) || tagB o.schema) = true ∧ 1 ≤ o.time ∧ o.time ≤ 1099511627776 ∧ nameB o.cart = true ∧ dropsB o = true) ?_ ?_)
  ·refine AW.seq (AW.region (AL.r (qa fo_48_0) ?_)); refine AL.r (qN ag_34) ?_; refine AL.op rfl (AOpB.op (op_call (rtag_c o.id) rfl (by kernel_rfl) rfl (none) ?_)); rintro r rfl; refine AL.n ?_; refine AL.r (rd_un rfl rfl (fun _ => rfl)) ?_; refine AL.rm ?_; refine AL.fk (d := 7) rfl (fun h7 => ?_) (fun h7 => ?_)
   ·refine AL.n ?_; (iterate 5 refine AL.rf ?_); (iterate 4 refine AL.ru ?_); refine AL.rf ?_; (iterate 2 (refine AL.r qt ?_; refine AL.rm ?_; (iterate 3 refine AL.rf ?_))); refine AL.r qt ?_; refine AL.rm ?_; (iterate 4 refine AL.rf ?_); refine AL.r qt ?_; refine AL.rm ?_; (iterate 3 refine AL.rf ?_); refine AL.r qt ?_; refine AL.nil (AW.cond_t rfl (AW.seq (AW.region (AL.ra ?_)))); refine AL.nil (AW.ret (r1t ?_))
    refine congrArg (fun b => RS.s (AB b)) ?_
    grind [rightR, List.isEmpty_iff, List.length_eq_zero_iff]
   ·refine AL.n ?_; refine AL.ro (qa fo_48_1) ?_; refine AL.ro (qN ag_34) ?_; refine AL.ro (rd_build rfl pl_34 ze_34 rfl rfl) ?_; refine AL.ro (rd_ne_Tag rfl rfl rfl) ?_; refine AL.ro (rd_move rfl rfl) ?_; refine AL.fk (d := 12) rfl (fun h12 => ?_) (fun h12 => ?_)
    ·refine AL.n ?_; refine AL.ro (qa fo_48_1) ?_; refine AL.ro (qN ag_34) ?_; refine AL.on rfl rfl rfl (AOpB.op (op_call (rtag_c o.schema) rfl (by kernel_rfl) rfl (none) ?_)); rintro r rfl; refine AL.n ?_; refine AL.ro (rd_un rfl rfl (fun _ => rfl)) ?_; refine AL.ro (rd_pick_t rfl rfl rfl) ?_; refine AL.r qf ?_; refine AL.rm ?_; refine AL.fk (d := 19) rfl (fun h19 => ?_) (fun h19 => ?_)
     ·refine AL.n ?_; (iterate 2 ((iterate 3 refine AL.rf ?_); refine AL.r qt ?_; refine AL.rm ?_)); (iterate 4 refine AL.rf ?_); refine AL.r qt ?_; refine AL.rm ?_; (iterate 3 refine AL.rf ?_); refine AL.r qt ?_; refine AL.nil (AW.cond_t rfl (AW.seq (AW.region (AL.ra ?_)))); refine AL.nil (AW.ret (r1t ?_)); refine congrArg (fun b => RS.s (AB b)) ?_
      grind [rightR, List.isEmpty_iff, List.length_eq_zero_iff]
     ·refine AL.n ?_; refine AL.ro (qa fo_48_2) ?_; refine AL.ro (ql ag_2) ?_; refine AL.ro qb ?_; refine AL.r qf ?_; refine AL.rm ?_; refine AL.fk (d := 24) rfl (fun h24 => ?_) (fun h24 => ?_)
      ·refine AL.n ?_; (iterate 3 refine AL.rf ?_); refine AL.r qt ?_; refine AL.rm ?_; (iterate 4 refine AL.rf ?_); refine AL.r qt ?_; refine AL.rm ?_; (iterate 3 refine AL.rf ?_); refine AL.r qt ?_; refine AL.nil (AW.cond_t rfl (AW.seq (AW.region (AL.ra ?_)))); refine AL.nil (AW.ret (r1t ?_)); refine congrArg (fun b => RS.s (AB b)) ?_
       grind [rightR, List.isEmpty_iff, List.length_eq_zero_iff]
      ·refine AL.n ?_; refine AL.ro (qa fo_48_2) ?_; refine AL.ro (ql ag_2) ?_; refine AL.ro qb ?_; refine AL.r qf ?_; refine AL.rm ?_; refine AL.fk (d := 29) rfl (fun h29 => ?_) (fun h29 => ?_)
       ·refine AL.n ?_; (iterate 4 refine AL.rf ?_); refine AL.r qt ?_; refine AL.rm ?_; (iterate 3 refine AL.rf ?_); refine AL.r qt ?_; refine AL.nil (AW.cond_t rfl (AW.seq (AW.region (AL.ra ?_)))); refine AL.nil (AW.ret (r1t ?_)); refine congrArg (fun b => RS.s (AB b)) ?_
        grind [rightR, List.isEmpty_iff, List.length_eq_zero_iff]
       ·refine AL.n ?_; refine AL.ro (qa fo_48_3) ?_; refine AL.ro (ql ag_9) ?_; refine AL.on rfl rfl rfl (AOpB.op (op_call (rname_c o.cart) rfl (by kernel_rfl) rfl (none) ?_)); rintro r rfl; refine AL.n ?_; refine AL.ro (rd_un rfl rfl (fun _ => rfl)) ?_; refine AL.r qf ?_; refine AL.rm ?_; refine AL.fk (d := 35) rfl (fun h35 => ?_) (fun h35 => ?_)
        ·refine AL.n ?_; (iterate 3 refine AL.rf ?_); refine AL.r qt ?_; refine AL.nil (AW.cond_t rfl (AW.seq (AW.region (AL.ra ?_)))); refine AL.nil (AW.ret (r1t ?_)); refine congrArg (fun b => RS.s (AB b)) ?_
         grind [rightR, List.isEmpty_iff, List.length_eq_zero_iff]
        ·refine AL.n ?_; refine AL.ro (qN ag_48) ?_; refine AL.on rfl rfl rfl (AOpB.op (op_call (rdrops_c o) rfl (by kernel_rfl) rfl (none) ?_)); rintro r rfl; refine AL.n ?_; refine AL.ro (rd_un rfl rfl (fun _ => rfl)) ?_; refine AL.r qf ?_; refine AL.nil (AW.cd rfl (fun h39 => ?_) (fun h39 => ?_))
         ·refine AW.seq (AW.region (AL.ra ?_)); refine AL.nil (AW.ret (r1t ?_)); refine congrArg (fun b => RS.s (AB b)) ?_
          grind [rightR, List.isEmpty_iff, List.length_eq_zero_iff]
         ·refine AW.skip ?_; refine ⟨(), by refine ⟨by assumption, ?_, by omega, by omega, by assumption, by assumption⟩; simp_all [tagD_iff], wk, sk⟩
    ·refine AL.n ?_; (iterate 4 refine AL.rf ?_); refine AL.ro (rd_pick_f rfl rfl rfl) ?_; refine AL.r qf ?_; refine AL.rm ?_; refine AL.ro (qa fo_48_2) ?_; refine AL.ro (ql ag_2) ?_; refine AL.ro qb ?_; refine AL.r qf ?_; refine AL.rm ?_; refine AL.fk (d := 24) rfl (fun h24 => ?_) (fun h24 => ?_)
     ·refine AL.n ?_; (iterate 3 refine AL.rf ?_); refine AL.r qt ?_; refine AL.rm ?_; (iterate 4 refine AL.rf ?_); refine AL.r qt ?_; refine AL.rm ?_; (iterate 3 refine AL.rf ?_); refine AL.r qt ?_; refine AL.nil (AW.cond_t rfl (AW.seq (AW.region (AL.ra ?_)))); refine AL.nil (AW.ret (r1t ?_)); refine congrArg (fun b => RS.s (AB b)) ?_
      grind [rightR, List.isEmpty_iff, List.length_eq_zero_iff]
     ·refine AL.n ?_; refine AL.ro (qa fo_48_2) ?_; refine AL.ro (ql ag_2) ?_; refine AL.ro qb ?_; refine AL.r qf ?_; refine AL.rm ?_; refine AL.fk (d := 29) rfl (fun h29 => ?_) (fun h29 => ?_)
      ·refine AL.n ?_; (iterate 4 refine AL.rf ?_); refine AL.r qt ?_; refine AL.rm ?_; (iterate 3 refine AL.rf ?_); refine AL.r qt ?_; refine AL.nil (AW.cond_t rfl (AW.seq (AW.region (AL.ra ?_)))); refine AL.nil (AW.ret (r1t ?_)); refine congrArg (fun b => RS.s (AB b)) ?_
       grind [rightR, List.isEmpty_iff, List.length_eq_zero_iff]
      ·refine AL.n ?_; refine AL.ro (qa fo_48_3) ?_; refine AL.ro (ql ag_9) ?_; refine AL.on rfl rfl rfl (AOpB.op (op_call (rname_c o.cart) rfl (by kernel_rfl) rfl (none) ?_)); rintro r rfl; refine AL.n ?_; refine AL.ro (rd_un rfl rfl (fun _ => rfl)) ?_; refine AL.r qf ?_; refine AL.rm ?_; refine AL.fk (d := 35) rfl (fun h35 => ?_) (fun h35 => ?_)
       ·refine AL.n ?_; (iterate 3 refine AL.rf ?_); refine AL.r qt ?_; refine AL.nil (AW.cond_t rfl (AW.seq (AW.region (AL.ra ?_)))); refine AL.nil (AW.ret (r1t ?_)); refine congrArg (fun b => RS.s (AB b)) ?_
        grind [rightR, List.isEmpty_iff, List.length_eq_zero_iff]
       ·refine AL.n ?_; refine AL.ro (qN ag_48) ?_; refine AL.on rfl rfl rfl (AOpB.op (op_call (rdrops_c o) rfl (by kernel_rfl) rfl (none) ?_)); rintro r rfl; refine AL.n ?_; refine AL.ro (rd_un rfl rfl (fun _ => rfl)) ?_; refine AL.r qf ?_; refine AL.nil (AW.cd rfl (fun h39 => ?_) (fun h39 => ?_))
        ·refine AW.seq (AW.region (AL.ra ?_)); refine AL.nil (AW.ret (r1t ?_)); refine congrArg (fun b => RS.s (AB b)) ?_
         grind [rightR, List.isEmpty_iff, List.length_eq_zero_iff]
        ·refine AW.skip ?_; refine ⟨(), by refine ⟨by assumption, ?_, by omega, by omega, by assumption, by assumption⟩; simp_all [tagD_iff], wk, sk⟩
  ·rintro u39 gs39 hJ39; refine AW.nm ?_
   (try dsimp only at hJ39)
   change AW _ _ _ _ _; refine AW.seq (AW.seq (AW.region (AL.r (qa fo_48_4) ?_))); refine AL.r (ql ag_3) ?_; refine AL.r qb ?_; refine AL.nil (AW.cd rfl (fun h42 => ?_) (fun h42 => ?_))
   ·refine AW.seq (AW.region (AL.r (qa fo_48_5) ?_)); refine AL.r (ql ag_9) ?_; refine AL.r (rd_seq rfl rfl rfl) ?_; refine AL.rm ?_; refine AL.fk (d := 46) rfl (fun h46 => ?_) (fun h46 => ?_)
    ·refine AL.n ?_; refine AL.ro (qN ag_48) ?_; refine AL.on rfl rfl rfl (AOpB.op (op_call (plain_c o) rfl (by kernel_rfl) rfl (none) ?_)); rintro r rfl; refine AL.n ?_; refine AL.r qt ?_; refine AL.ra ?_; refine AL.nil (AW.ret (r1t ?_)); refine congrArg (fun b => RS.s (AB b)) ?_
     grind [rightR, List.isEmpty_iff, List.length_eq_zero_iff]
    ·refine AL.n ?_; (iterate 2 refine AL.rf ?_); refine AL.r qf ?_; refine AL.ra ?_; refine AL.nil (AW.ret (r1t ?_)); refine congrArg (fun b => RS.s (AB b)) ?_
     grind [rightR, List.isEmpty_iff, List.length_eq_zero_iff]
   ·refine AW.skip (AW.seq (AW.seq (AW.region (AL.r (qa fo_48_4) ?_)))); refine AL.r (ql ag_3) ?_; refine AL.r qb ?_; refine AL.nil (AW.cd rfl (fun h52 => ?_) (fun h52 => ?_))
    ·refine AW.seq (AW.region (AL.r (qa fo_48_5) ?_)); refine AL.r (ql ag_9) ?_; refine AL.op rfl (AOpB.op (op_call (rname_c o.item) rfl (by kernel_rfl) rfl (none) ?_)); rintro r rfl; refine AL.n ?_; refine AL.rm ?_; refine AL.fk (d := 56) rfl (fun h56 => ?_) (fun h56 => ?_)
     ·refine AL.n ?_; refine AL.ro (qN ag_48) ?_; refine AL.on rfl rfl rfl (AOpB.op (op_call (plain_c o) rfl (by kernel_rfl) rfl (none) ?_)); rintro r rfl; refine AL.n ?_; refine AL.r qt ?_; refine AL.rm ?_; refine AL.fk (d := 60) rfl (fun h60 => ?_) (fun h60 => ?_)
      ·refine AL.n ?_; refine AL.ro (qa fo_48_10) ?_; refine AL.ro (ql ag_24) ?_; refine AL.ro (rd_len_sl rfl el_24 rfl) ?_; refine AL.ro qb ?_; refine AL.r qt ?_; refine AL.ra ?_; refine AL.nil (AW.ret (r1t ?_)); refine congrArg (fun b => RS.s (AB b)) ?_
       grind [rightR, List.isEmpty_iff, List.length_eq_zero_iff]
      ·refine AL.n ?_; (iterate 4 refine AL.rf ?_); refine AL.r qf ?_; refine AL.ra ?_; refine AL.nil (AW.ret (r1t ?_)); refine congrArg (fun b => RS.s (AB b)) ?_
       grind [rightR, List.isEmpty_iff, List.length_eq_zero_iff]
     ·refine AL.n ?_; (iterate 2 refine AL.rf ?_); refine AL.r qf ?_; refine AL.rm ?_; (iterate 4 refine AL.rf ?_); refine AL.r qf ?_; refine AL.ra ?_; refine AL.nil (AW.ret (r1t ?_)); refine congrArg (fun b => RS.s (AB b)) ?_
      grind [rightR, List.isEmpty_iff, List.length_eq_zero_iff]
    ·refine AW.skip (AW.seq (AW.seq (AW.region (AL.r (qa fo_48_4) ?_)))); refine AL.r (ql ag_3) ?_; refine AL.r qb ?_; refine AL.nil (AW.cd rfl (fun h68 => ?_) (fun h68 => ?_))
     ·refine AW.seq (AW.region (AL.r (qa fo_48_5) ?_)); refine AL.r (ql ag_9) ?_; refine AL.op rfl (AOpB.op (op_call (rname_c o.item) rfl (by kernel_rfl) rfl (none) ?_)); rintro r rfl; refine AL.n ?_; refine AL.rm ?_; refine AL.fk (d := 72) rfl (fun h72 => ?_) (fun h72 => ?_)
      ·refine AL.n ?_; refine AL.ro (qN ag_48) ?_; refine AL.on rfl rfl rfl (AOpB.op (op_call (plain_c o) rfl (by kernel_rfl) rfl (none) ?_)); rintro r rfl; refine AL.n ?_; refine AL.r qt ?_; refine AL.ra ?_; refine AL.nil (AW.ret (r1t ?_)); refine congrArg (fun b => RS.s (AB b)) ?_
       grind [rightR, List.isEmpty_iff, List.length_eq_zero_iff]
      ·refine AL.n ?_; (iterate 2 refine AL.rf ?_); refine AL.r qf ?_; refine AL.ra ?_; refine AL.nil (AW.ret (r1t ?_)); refine congrArg (fun b => RS.s (AB b)) ?_
       grind [rightR, List.isEmpty_iff, List.length_eq_zero_iff]
     ·refine AW.skip (AW.join (ι := Unit) [2, 76, 77, 78, 79, 80, 81, 82, 83, 84, 85, 86, 87, 88, 89, 90, 91, 92, 93, 94, 95, 96, 97, 98, 99, 100, 101, 102] (fun u102 => []) [] (fun u102 => []) (fun u102 => placeB o.at_ = true ∧ (!decide (o.at_.scope = 1) || nameB o.item) = true ∧ (!decide (o.at_.scope = 0) || o.item.isEmpty) = true) ?_ ?_)
      ·refine AW.seq (AW.region (AL.r (qa fo_48_6) ?_)); refine AL.r (qN ag_36) ?_; refine AL.op rfl (AOpB.op (op_call (rplace_c o.at_) rfl (by kernel_rfl) rfl (none) ?_)); rintro r rfl; refine AL.n ?_; refine AL.r (rd_un rfl rfl (fun _ => rfl)) ?_; refine AL.rm ?_; refine AL.fk (d := 80) rfl (fun h80 => ?_) (fun h80 => ?_)
       ·refine AL.n ?_; (iterate 5 refine AL.rf ?_); (iterate 4 refine AL.ru ?_); refine AL.rf ?_; refine AL.r qt ?_; refine AL.rm ?_; (iterate 5 refine AL.rf ?_); (iterate 3 refine AL.ru ?_); refine AL.rf ?_; refine AL.r qt ?_; refine AL.nil (AW.cond_t rfl (AW.seq (AW.region (AL.ra ?_)))); refine AL.nil (AW.ret (r1t ?_)); refine congrArg (fun b => RS.s (AB b)) ?_
        grind [rightR, List.isEmpty_iff, List.length_eq_zero_iff]
       ·refine AL.n ?_; refine AL.ro (qa fo_48_6) ?_; refine AL.ro (qa fo_36_0) ?_; refine AL.ro (ql ag_3) ?_; refine AL.ro qb ?_; refine AL.ro (rd_move rfl rfl) ?_; refine AL.fk (d := 85) rfl (fun h85 => ?_) (fun h85 => ?_)
        ·refine AL.n ?_; refine AL.ro (qa fo_48_5) ?_; refine AL.ro (ql ag_9) ?_; refine AL.on rfl rfl rfl (AOpB.op (op_call (rname_c o.item) rfl (by kernel_rfl) rfl (none) ?_)); rintro r rfl; refine AL.n ?_; refine AL.ro (rd_un rfl rfl (fun _ => rfl)) ?_; refine AL.ro (rd_pick_t rfl rfl rfl) ?_; refine AL.r qf ?_; refine AL.rm ?_; refine AL.fk (d := 92) rfl (fun h92 => ?_) (fun h92 => ?_)
         ·refine AL.n ?_; (iterate 5 refine AL.rf ?_); (iterate 3 refine AL.ru ?_); refine AL.rf ?_; refine AL.r qt ?_; refine AL.nil (AW.cond_t rfl (AW.seq (AW.region (AL.ra ?_)))); refine AL.nil (AW.ret (r1t ?_)); refine congrArg (fun b => RS.s (AB b)) ?_
          grind [rightR, List.isEmpty_iff, List.length_eq_zero_iff]
         ·refine AL.n ?_; refine AL.ro (qa fo_48_6) ?_; refine AL.ro (qa fo_36_0) ?_; refine AL.ro (ql ag_3) ?_; refine AL.ro qb ?_; refine AL.ro (rd_move rfl rfl) ?_; refine AL.fk (d := 97) rfl (fun h97 => ?_) (fun h97 => ?_)
          ·refine AL.n ?_; refine AL.ro (qa fo_48_5) ?_; refine AL.ro (ql ag_9) ?_; refine AL.ro (rd_sne rfl rfl rfl) ?_; refine AL.ro (rd_pick_t rfl rfl rfl) ?_; refine AL.r qf ?_; refine AL.nil (AW.cd rfl (fun h102 => ?_) (fun h102 => ?_))
           ·refine AW.seq (AW.region (AL.ra ?_)); refine AL.nil (AW.ret (r1t ?_)); refine congrArg (fun b => RS.s (AB b)) ?_
            grind [rightR, List.isEmpty_iff, List.length_eq_zero_iff]
           ·refine AW.skip ?_; refine ⟨(), by grind, wk, sk⟩
          ·refine AL.n ?_; (iterate 3 refine AL.rf ?_); refine AL.ro (rd_pick_f rfl rfl rfl) ?_; refine AL.r qf ?_; refine AL.nil ?_; change AW _ _ _ _ _; refine AW.cond_f rfl ?_; refine AW.skip ?_; refine ⟨(), by grind, wk, sk⟩
        ·refine AL.n ?_; (iterate 4 refine AL.rf ?_); refine AL.ro (rd_pick_f rfl rfl rfl) ?_; refine AL.r qf ?_; refine AL.rm ?_; refine AL.ro (qa fo_48_6) ?_; refine AL.ro (qa fo_36_0) ?_; refine AL.ro (ql ag_3) ?_; refine AL.ro qb ?_; refine AL.ro (rd_move rfl rfl) ?_; refine AL.fk (d := 97) rfl (fun h97 => ?_) (fun h97 => ?_)
         ·refine AL.n ?_; refine AL.ro (qa fo_48_5) ?_; refine AL.ro (ql ag_9) ?_; refine AL.ro (rd_sne rfl rfl rfl) ?_; refine AL.ro (rd_pick_t rfl rfl rfl) ?_; refine AL.r qf ?_; refine AL.nil (AW.cd rfl (fun h102 => ?_) (fun h102 => ?_))
          ·refine AW.seq (AW.region (AL.ra ?_)); refine AL.nil (AW.ret (r1t ?_)); refine congrArg (fun b => RS.s (AB b)) ?_
           grind [rightR, List.isEmpty_iff, List.length_eq_zero_iff]
          ·refine AW.skip ?_; refine ⟨(), by grind, wk, sk⟩
         ·refine AL.n ?_; (iterate 3 refine AL.rf ?_); refine AL.ro (rd_pick_f rfl rfl rfl) ?_; refine AL.r qf ?_; refine AL.nil ?_; change AW _ _ _ _ _; refine AW.cond_f rfl ?_; refine AW.skip ?_; refine ⟨(), by grind, wk, sk⟩
      ·rintro u102 gs102 hJ102; refine AW.nm ?_
       (try dsimp only at hJ102)
       change AW _ _ _ _ _; refine AW.seq (AW.seq (AW.region (AL.r (qa fo_48_4) ?_))); refine AL.r (ql ag_3) ?_; refine AL.r qb ?_; refine AL.nil (AW.cd rfl (fun h105 => ?_) (fun h105 => ?_))
       ·refine AW.seq (AW.region (AL.r (qa fo_48_8) ?_)); refine AL.r (ql ag_4) ?_; refine AL.r (rd_un rfl rfl (fun _ => rfl)) ?_; refine AL.rm ?_; refine AL.fk (d := 109) rfl (fun h109 => ?_) (fun h109 => ?_)
        ·refine AL.n ?_; refine AL.ro (qa fo_48_9) ?_; refine AL.ro (ql ag_9) ?_; refine AL.ro (rd_seq rfl rfl rfl) ?_; refine AL.r qt ?_; refine AL.rm ?_; refine AL.fk (d := 114) rfl (fun h114 => ?_) (fun h114 => ?_)
         ·refine AL.n ?_; refine AL.ro (qa fo_48_10) ?_; refine AL.ro (ql ag_24) ?_; refine AL.ro (rd_len_sl rfl el_24 rfl) ?_; refine AL.ro qb ?_; refine AL.r qt ?_; refine AL.rm ?_; refine AL.fk (d := 120) rfl (fun h120 => ?_) (fun h120 => ?_)
          ·refine AL.n ?_; refine AL.ro (qa fo_48_7) ?_; refine AL.ro (ql ag_2) ?_; refine AL.ro qb ?_; refine AL.r qt ?_; refine AL.rm ?_; refine AL.fk (d := 125) rfl (fun h125 => ?_) (fun h125 => ?_)
           ·refine AL.n ?_; refine AL.ro (qa fo_48_7) ?_; refine AL.ro (ql ag_2) ?_; refine AL.ro qb ?_; refine AL.r qt ?_; refine AL.ra ?_; refine AL.nil (AW.ret (r1t ?_)); refine congrArg (fun b => RS.s (AB b)) ?_
            grind [rightR, List.isEmpty_iff, List.length_eq_zero_iff]
           ·refine AL.n ?_; (iterate 3 refine AL.rf ?_); refine AL.r qf ?_; refine AL.ra ?_; refine AL.nil (AW.ret (r1t ?_)); refine congrArg (fun b => RS.s (AB b)) ?_
            grind [rightR, List.isEmpty_iff, List.length_eq_zero_iff]
          ·refine AL.n ?_; (iterate 3 refine AL.rf ?_); refine AL.r qf ?_; refine AL.rm ?_; (iterate 3 refine AL.rf ?_); refine AL.r qf ?_; refine AL.ra ?_; refine AL.nil (AW.ret (r1t ?_)); refine congrArg (fun b => RS.s (AB b)) ?_
           grind [rightR, List.isEmpty_iff, List.length_eq_zero_iff]
         ·refine AL.n ?_; (iterate 4 refine AL.rf ?_); (iterate 2 (refine AL.r qf ?_; refine AL.rm ?_; (iterate 3 refine AL.rf ?_))); refine AL.r qf ?_; refine AL.ra ?_; refine AL.nil (AW.ret (r1t ?_)); refine congrArg (fun b => RS.s (AB b)) ?_
          grind [rightR, List.isEmpty_iff, List.length_eq_zero_iff]
        ·refine AL.n ?_; (iterate 3 refine AL.rf ?_); refine AL.r qf ?_; refine AL.rm ?_; (iterate 4 refine AL.rf ?_); (iterate 2 (refine AL.r qf ?_; refine AL.rm ?_; (iterate 3 refine AL.rf ?_))); refine AL.r qf ?_; refine AL.ra ?_; refine AL.nil (AW.ret (r1t ?_)); refine congrArg (fun b => RS.s (AB b)) ?_
         grind [rightR, List.isEmpty_iff, List.length_eq_zero_iff]
       ·refine AW.skip (AW.seq (AW.region (AL.r (qa fo_48_4) ?_))); refine AL.r (ql ag_3) ?_; refine AL.r qb ?_; refine AL.rm ?_; refine AL.fk (d := 133) rfl (fun h133 => ?_) (fun h133 => ?_)
        ·refine AL.n ?_; refine AL.ro (qa fo_48_7) ?_; refine AL.ro (ql ag_2) ?_; refine AL.ro qb ?_; refine AL.r qt ?_; refine AL.rm ?_; refine AL.fk (d := 138) rfl (fun h138 => ?_) (fun h138 => ?_)
         ·refine AL.n ?_; refine AL.ro (qa fo_48_8) ?_; refine AL.ro (ql ag_4) ?_; refine AL.ro (rd_move rfl rfl) ?_; refine AL.fk (d := 141) rfl (fun h141 => ?_) (fun h141 => ?_)
          ·refine AL.n ?_; refine AL.ro (qa fo_48_9) ?_; refine AL.ro (ql ag_9) ?_; refine AL.ro (rd_len_str rfl str_9 rfl) ?_; refine AL.ro qb ?_; refine AL.ro (rd_pick_t rfl rfl rfl) ?_; refine AL.ro (rd_move rfl rfl) ?_; refine AL.fk (d := 147) rfl (fun h147 => ?_) (fun h147 => ?_)
           ·refine AL.n ?_; (iterate 4 refine AL.rf ?_); (iterate 3 refine AL.ru ?_); refine AL.rf ?_; refine AL.ro (rd_pick_t rfl rfl rfl) ?_; refine AL.r qt ?_; refine AL.ra ?_; refine AL.nil (AW.ret (r1t ?_)); refine congrArg (fun b => RS.s (AB b)) ?_
            grind [rightR, List.isEmpty_iff, List.length_eq_zero_iff]
           ·refine AL.n ?_; refine AL.ro (qa fo_48_8) ?_; refine AL.ro (ql ag_4) ?_; refine AL.ro (rd_un rfl rfl (fun _ => rfl)) ?_; refine AL.ro (rd_move rfl rfl) ?_; refine AL.fk (d := 151) rfl (fun h151 => ?_) (fun h151 => ?_)
            ·refine AL.n ?_; refine AL.ro (qa fo_48_9) ?_; refine AL.ro (ql ag_9) ?_; refine AL.ro (rd_seq rfl rfl rfl) ?_; refine AL.ro (rd_pick_t rfl rfl rfl) ?_; refine AL.ro (rd_pick_f rfl rfl rfl) ?_; refine AL.r qt ?_; refine AL.ra ?_; refine AL.nil (AW.ret (r1t ?_)); refine congrArg (fun b => RS.s (AB b)) ?_
             grind [rightR, List.isEmpty_iff, List.length_eq_zero_iff]
            ·refine AL.n ?_; (iterate 3 refine AL.rf ?_); refine AL.ro (rd_pick_f rfl rfl rfl) ?_; refine AL.ro (rd_pick_f rfl rfl rfl) ?_; refine AL.r qt ?_; refine AL.ra ?_; refine AL.nil (AW.ret (r1t ?_)); refine congrArg (fun b => RS.s (AB b)) ?_
             grind [rightR, List.isEmpty_iff, List.length_eq_zero_iff]
          ·refine AL.n ?_; (iterate 4 refine AL.rf ?_); refine AL.ro (rd_pick_f rfl rfl rfl) ?_; refine AL.ro (rd_move rfl rfl) ?_; refine AL.ro (qa fo_48_8) ?_; refine AL.ro (ql ag_4) ?_; refine AL.ro (rd_un rfl rfl (fun _ => rfl)) ?_; refine AL.ro (rd_move rfl rfl) ?_; refine AL.fk (d := 151) rfl (fun h151 => ?_) (fun h151 => ?_)
           ·refine AL.n ?_; refine AL.ro (qa fo_48_9) ?_; refine AL.ro (ql ag_9) ?_; refine AL.ro (rd_seq rfl rfl rfl) ?_; refine AL.ro (rd_pick_t rfl rfl rfl) ?_; refine AL.ro (rd_pick_f rfl rfl rfl) ?_; refine AL.r qt ?_; refine AL.ra ?_; refine AL.nil (AW.ret (r1t ?_)); refine congrArg (fun b => RS.s (AB b)) ?_
            grind [rightR, List.isEmpty_iff, List.length_eq_zero_iff]
           ·refine AL.n ?_; (iterate 3 refine AL.rf ?_); refine AL.ro (rd_pick_f rfl rfl rfl) ?_; refine AL.ro (rd_pick_f rfl rfl rfl) ?_; refine AL.r qt ?_; refine AL.ra ?_; refine AL.nil (AW.ret (r1t ?_)); refine congrArg (fun b => RS.s (AB b)) ?_
            grind [rightR, List.isEmpty_iff, List.length_eq_zero_iff]
         ·refine AL.n ?_; (iterate 3 refine AL.rf ?_); (iterate 4 refine AL.ru ?_); (iterate 2 refine AL.rf ?_); (iterate 8 refine AL.ru ?_); refine AL.rf ?_; refine AL.r qf ?_; refine AL.ra ?_; refine AL.nil (AW.ret (r1t ?_)); refine congrArg (fun b => RS.s (AB b)) ?_
          grind [rightR, List.isEmpty_iff, List.length_eq_zero_iff]
        ·refine AL.n ?_; (iterate 3 refine AL.rf ?_); refine AL.r qf ?_; refine AL.rm ?_; (iterate 3 refine AL.rf ?_); (iterate 4 refine AL.ru ?_); (iterate 2 refine AL.rf ?_); (iterate 8 refine AL.ru ?_); refine AL.rf ?_; refine AL.r qf ?_; refine AL.ra ?_; refine AL.nil (AW.ret (r1t ?_)); refine congrArg (fun b => RS.s (AB b)) ?_
         grind [rightR, List.isEmpty_iff, List.length_eq_zero_iff]
end Go.Proofs.YtlapcfnmmpbeeaaGreat
