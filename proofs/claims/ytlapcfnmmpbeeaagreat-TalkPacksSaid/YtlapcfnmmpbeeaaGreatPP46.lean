/- Texts of the proof of talkPacks_holds, put together by a program: TkE. -/
import Derived.Test.YtlapcfnmmpbeeaaGreatPP41
set_option linter.unusedSimpArgs false
set_option linter.unusedVariables false
namespace Go.Proofs.YtlapcfnmmpbeeaaGreat
set_option maxRecDepth 100000
set_option maxRecDepth 100000
open Go.RowKit
set_option maxHeartbeats 1000000 in
theorem rright_1 (fr fm : Int) (hv : V6D) (tg : List TagD) (ed : List EdgeD) (os : List OpD) (hs : ∀ e ∈ ed, e.lens.Small) (ht : tg.length ≤ 1000) (hel : ed.length ≤ 1000) (hol : os.length ≤ 1000) : AC Tryz.prog 9 [(NoteD.mk 1 fr fm hv tg ed os).av] (fun r => r = .s (AB (noteB ⟨1, fr, fm, hv, tg, ed, os⟩))) := by
  change AC _ _ [.ag [AI 1, AI fr, AI fm, AI hv.a, AI hv.b, AI hv.c, AI hv.d, AI hv.e, AI hv.f, .sl (tg.map TagD.cs), .sl (ed.map EdgeD.cs), .sl (os.map OpD.cs)]] _; refine AC.of' 144 2 Tryz.func9 rfl ?_; change AW _ _ _ _ [TK.mk 0 .off, TK.mk 0 .off]; refine AW.seq (AW.region (AL.op rfl (AOpB.op (op_box 0 rfl rfl rfl rfl rfl ?_)))); refine AL.n ?_; refine AL.ra ?_; refine AL.nil (AW.seq (AW.seq (AW.region (AL.r (qa fo_28_1) ?_)))); refine AL.r (ql ag_3) ?_; refine AL.r qb ?_; refine AL.rm ?_; refine AL.fk (d := 9) rfl (fun h9 => ?_) (fun h9 => ?_)
  ·refine AL.n ?_; (iterate 3 refine AL.rf ?_); refine AL.r qt ?_; refine AL.nil (AW.cond_t rfl (AW.seq (AW.region (AL.ra ?_)))); refine AL.nil (AW.ret (r1t ?_))
   (refine congrArg (fun b => RS.s (AB b)) ?_; rw [Bool.eq_iff_iff]; simp only [noteB, frB, z6]; simp_all [-List.length_eq_zero_iff, v6_iff] <;> omega)
  ·refine AL.n ?_; refine AL.ro (qa fo_28_1) ?_; refine AL.ro (ql ag_3) ?_; refine AL.ro qb ?_; refine AL.r qf ?_; refine AL.nil (AW.cd rfl (fun h13 => ?_) (fun h13 => ?_))
   ·refine AW.seq (AW.region (AL.ra ?_)); refine AL.nil (AW.ret (r1t ?_))
    (refine congrArg (fun b => RS.s (AB b)) ?_; rw [Bool.eq_iff_iff]; simp only [noteB, frB, z6]; simp_all [-List.length_eq_zero_iff, v6_iff] <;> omega)
   ·refine AW.skip (AW.seq (AW.region (AL.r (rd_buildA rfl ar_23 ze_23 rfl rfl) ?_))); refine AL.op rfl (AOpB.op (op_alloc 1 rfl ze_23 rfl ?_)); refine AL.n ?_; refine AL.op rfl (op_store_ rfl rfl rfl rfl rfl sz_23 ?_); refine AL.b ?_; refine AL.nil (AW.seq (AW.seq (AW.region (AL.r (qa fo_28_0) ?_)))); refine AL.r (ql ag_3) ?_; refine AL.r qb ?_; refine AL.nil (AW.cond_t rfl (AW.seq (AW.region (AL.r (qa fo_28_2) ?_)))); refine AL.r (ql ag_3) ?_; refine AL.r qb ?_; refine AL.rm ?_; refine AL.fk (d := 21) rfl (fun h21 => ?_) (fun h21 => ?_)
    ·refine AL.n ?_; (iterate 3 refine AL.rf ?_); refine AL.r qt ?_; refine AL.rm ?_; refine AL.ro (qa fo_28_3) ?_; refine AL.ro (qN ag_23) ?_; refine AL.on rfl rfl rfl (AOpB.op (op_call (rdright_c hv) rfl (by kernel_rfl) rfl (none) ?_)); rintro r rfl; refine AL.n ?_; refine AL.r qt ?_; refine AL.rm ?_; refine AL.fk (d := 31) rfl (fun h31 => ?_) (fun h31 => ?_)
     ·refine AL.n ?_; refine AL.ro (qa fo_28_4) ?_; refine AL.ro (ql ag_24) ?_; refine AL.on rfl rfl rfl (AOpB.op (op_call (rrising_c tg ht) rfl (by kernel_rfl) rfl (none) ?_)); rintro r rfl; refine AL.n ?_; refine AL.r qt ?_; refine AL.rm ?_; refine AL.fk (d := 36) rfl (fun h36 => ?_) (fun h36 => ?_)
      ·refine AL.n ?_; refine AL.ro (qa fo_28_5) ?_; refine AL.ro (ql ag_25) ?_; refine AL.ro (rd_len_sl rfl el_25 rfl) ?_; refine AL.ro qb ?_; refine AL.r qt ?_; refine AL.rm ?_; refine AL.fk (d := 42) rfl (fun h42 => ?_) (fun h42 => ?_)
       ·refine AL.n ?_; refine AL.ro (qa fo_28_6) ?_; refine AL.ro (ql ag_26) ?_; refine AL.ro (rd_len_sl rfl el_26 rfl) ?_; refine AL.ro qb ?_; refine AL.r qt ?_; refine AL.ra ?_; refine AL.nil (AW.ret (r1t ?_))
        (refine congrArg (fun b => RS.s (AB b)) ?_; rw [Bool.eq_iff_iff]; simp only [noteB, frB, z6]; simp_all [-List.length_eq_zero_iff, v6_iff] <;> omega)
       ·refine AL.n ?_; (iterate 4 refine AL.rf ?_); refine AL.r qf ?_; refine AL.ra ?_; refine AL.nil (AW.ret (r1t ?_))
        (refine congrArg (fun b => RS.s (AB b)) ?_; rw [Bool.eq_iff_iff]; simp only [noteB, frB, z6]; simp_all [-List.length_eq_zero_iff, v6_iff] <;> omega)
      ·refine AL.n ?_; (iterate 4 refine AL.rf ?_); refine AL.r qf ?_; refine AL.rm ?_; (iterate 4 refine AL.rf ?_); refine AL.r qf ?_; refine AL.ra ?_; refine AL.nil (AW.ret (r1t ?_))
       (refine congrArg (fun b => RS.s (AB b)) ?_; rw [Bool.eq_iff_iff]; simp only [noteB, frB, z6]; simp_all [-List.length_eq_zero_iff, v6_iff] <;> omega)
     ·refine AL.n ?_; (iterate 3 refine AL.rf ?_); (iterate 2 (refine AL.r qf ?_; refine AL.rm ?_; (iterate 4 refine AL.rf ?_))); refine AL.r qf ?_; refine AL.ra ?_; refine AL.nil (AW.ret (r1t ?_))
      (refine congrArg (fun b => RS.s (AB b)) ?_; rw [Bool.eq_iff_iff]; simp only [noteB, frB, z6]; simp_all [-List.length_eq_zero_iff, v6_iff] <;> omega)
    ·refine AL.n ?_; refine AL.ro (qa fo_28_2) ?_; refine AL.ro (ql ag_3) ?_; refine AL.ro qb ?_; refine AL.r qf ?_; refine AL.rm ?_; refine AL.fk (d := 26) rfl (fun h26 => ?_) (fun h26 => ?_)
     ·refine AL.n ?_; refine AL.ro (qa fo_28_3) ?_; refine AL.ro (qN ag_23) ?_; refine AL.on rfl rfl rfl (AOpB.op (op_call (rdright_c hv) rfl (by kernel_rfl) rfl (none) ?_)); rintro r rfl; refine AL.n ?_; refine AL.r qt ?_; refine AL.rm ?_; refine AL.fk (d := 31) rfl (fun h31 => ?_) (fun h31 => ?_)
      ·refine AL.n ?_; refine AL.ro (qa fo_28_4) ?_; refine AL.ro (ql ag_24) ?_; refine AL.on rfl rfl rfl (AOpB.op (op_call (rrising_c tg ht) rfl (by kernel_rfl) rfl (none) ?_)); rintro r rfl; refine AL.n ?_; refine AL.r qt ?_; refine AL.rm ?_; refine AL.fk (d := 36) rfl (fun h36 => ?_) (fun h36 => ?_)
       ·refine AL.n ?_; refine AL.ro (qa fo_28_5) ?_; refine AL.ro (ql ag_25) ?_; refine AL.ro (rd_len_sl rfl el_25 rfl) ?_; refine AL.ro qb ?_; refine AL.r qt ?_; refine AL.rm ?_; refine AL.fk (d := 42) rfl (fun h42 => ?_) (fun h42 => ?_)
        ·refine AL.n ?_; refine AL.ro (qa fo_28_6) ?_; refine AL.ro (ql ag_26) ?_; refine AL.ro (rd_len_sl rfl el_26 rfl) ?_; refine AL.ro qb ?_; refine AL.r qt ?_; refine AL.ra ?_; refine AL.nil (AW.ret (r1t ?_))
         (refine congrArg (fun b => RS.s (AB b)) ?_; rw [Bool.eq_iff_iff]; simp only [noteB, frB, z6]; simp_all [-List.length_eq_zero_iff, v6_iff] <;> omega)
        ·refine AL.n ?_; (iterate 4 refine AL.rf ?_); refine AL.r qf ?_; refine AL.ra ?_; refine AL.nil (AW.ret (r1t ?_))
         (refine congrArg (fun b => RS.s (AB b)) ?_; rw [Bool.eq_iff_iff]; simp only [noteB, frB, z6]; simp_all [-List.length_eq_zero_iff, v6_iff] <;> omega)
       ·refine AL.n ?_; (iterate 4 refine AL.rf ?_); refine AL.r qf ?_; refine AL.rm ?_; (iterate 4 refine AL.rf ?_); refine AL.r qf ?_; refine AL.ra ?_; refine AL.nil (AW.ret (r1t ?_))
        (refine congrArg (fun b => RS.s (AB b)) ?_; rw [Bool.eq_iff_iff]; simp only [noteB, frB, z6]; simp_all [-List.length_eq_zero_iff, v6_iff] <;> omega)
      ·refine AL.n ?_; (iterate 3 refine AL.rf ?_); (iterate 2 (refine AL.r qf ?_; refine AL.rm ?_; (iterate 4 refine AL.rf ?_))); refine AL.r qf ?_; refine AL.ra ?_; refine AL.nil (AW.ret (r1t ?_))
       (refine congrArg (fun b => RS.s (AB b)) ?_; rw [Bool.eq_iff_iff]; simp only [noteB, frB, z6]; simp_all [-List.length_eq_zero_iff, v6_iff] <;> omega)
     ·refine AL.n ?_; (iterate 2 ((iterate 3 refine AL.rf ?_); refine AL.r qf ?_; refine AL.rm ?_)); (iterate 4 refine AL.rf ?_); refine AL.r qf ?_; refine AL.rm ?_; (iterate 4 refine AL.rf ?_); refine AL.r qf ?_; refine AL.ra ?_; refine AL.nil (AW.ret (r1t ?_))
      (refine congrArg (fun b => RS.s (AB b)) ?_; rw [Bool.eq_iff_iff]; simp only [noteB, frB, z6]; simp_all [-List.length_eq_zero_iff, v6_iff] <;> omega)
set_option maxHeartbeats 1000000 in
theorem rright_2 (fr fm : Int) (hv : V6D) (tg : List TagD) (ed : List EdgeD) (os : List OpD) (hs : ∀ e ∈ ed, e.lens.Small) (ht : tg.length ≤ 1000) (hel : ed.length ≤ 1000) (hol : os.length ≤ 1000) : AC Tryz.prog 9 [(NoteD.mk 2 fr fm hv tg ed os).av] (fun r => r = .s (AB (noteB ⟨2, fr, fm, hv, tg, ed, os⟩))) := by
  change AC _ _ [.ag [AI 2, AI fr, AI fm, AI hv.a, AI hv.b, AI hv.c, AI hv.d, AI hv.e, AI hv.f, .sl (tg.map TagD.cs), .sl (ed.map EdgeD.cs), .sl (os.map OpD.cs)]] _; refine AC.of' 144 2 Tryz.func9 rfl ?_; change AW _ _ _ _ [TK.mk 0 .off, TK.mk 0 .off]; refine AW.seq (AW.region (AL.op rfl (AOpB.op (op_box 0 rfl rfl rfl rfl rfl ?_)))); refine AL.n ?_; refine AL.ra ?_; refine AL.nil (AW.seq (AW.seq (AW.region (AL.r (qa fo_28_1) ?_)))); refine AL.r (ql ag_3) ?_; refine AL.r qb ?_; refine AL.rm ?_; refine AL.fk (d := 9) rfl (fun h9 => ?_) (fun h9 => ?_)
  ·refine AL.n ?_; (iterate 3 refine AL.rf ?_); refine AL.r qt ?_; refine AL.nil (AW.cond_t rfl (AW.seq (AW.region (AL.ra ?_)))); refine AL.nil (AW.ret (r1t ?_))
   (refine congrArg (fun b => RS.s (AB b)) ?_; rw [Bool.eq_iff_iff]; simp only [noteB, frB, z6]; simp_all [-List.length_eq_zero_iff, v6_iff] <;> omega)
  ·refine AL.n ?_; refine AL.ro (qa fo_28_1) ?_; refine AL.ro (ql ag_3) ?_; refine AL.ro qb ?_; refine AL.r qf ?_; refine AL.nil (AW.cd rfl (fun h13 => ?_) (fun h13 => ?_))
   ·refine AW.seq (AW.region (AL.ra ?_)); refine AL.nil (AW.ret (r1t ?_))
    (refine congrArg (fun b => RS.s (AB b)) ?_; rw [Bool.eq_iff_iff]; simp only [noteB, frB, z6]; simp_all [-List.length_eq_zero_iff, v6_iff] <;> omega)
   ·refine AW.skip (AW.seq (AW.region (AL.r (rd_buildA rfl ar_23 ze_23 rfl rfl) ?_))); refine AL.op rfl (AOpB.op (op_alloc 1 rfl ze_23 rfl ?_)); refine AL.n ?_; refine AL.op rfl (op_store_ rfl rfl rfl rfl rfl sz_23 ?_); refine AL.b ?_; refine AL.nil (AW.seq (AW.seq (AW.region (AL.r (qa fo_28_0) ?_)))); refine AL.r (ql ag_3) ?_; refine AL.r qb ?_; refine AL.nil (AW.cond_f rfl (AW.skip (AW.seq (AW.seq (AW.region (AL.r (qa fo_28_2) ?_)))))); refine AL.r (ql ag_3) ?_; refine AL.r qb ?_; refine AL.rm ?_; refine AL.fk (d := 51) rfl (fun h51 => ?_) (fun h51 => ?_)
    ·refine AL.n ?_; (iterate 4 refine AL.rf ?_); refine AL.r qt ?_; refine AL.nil (AW.cond_t rfl (AW.seq (AW.region (AL.ra ?_)))); refine AL.nil (AW.ret (r1t ?_))
     (refine congrArg (fun b => RS.s (AB b)) ?_; rw [Bool.eq_iff_iff]; simp only [noteB, frB, z6]; simp_all [-List.length_eq_zero_iff, v6_iff] <;> omega)
    ·refine AL.n ?_; refine AL.ro (qa fo_28_4) ?_; refine AL.ro (ql ag_24) ?_; refine AL.ro (rd_len_sl rfl el_24 rfl) ?_; refine AL.ro qb ?_; refine AL.r qf ?_; refine AL.nil (AW.cd rfl (fun h56 => ?_) (fun h56 => ?_))
     ·refine AW.seq (AW.region (AL.ra ?_)); refine AL.nil (AW.ret (r1t ?_))
      (refine congrArg (fun b => RS.s (AB b)) ?_; rw [Bool.eq_iff_iff]; simp only [noteB, frB, z6]; simp_all [-List.length_eq_zero_iff, v6_iff] <;> omega)
     ·refine AW.skip (AW.seq (AW.seq (AW.region (AL.r (qa fo_28_0) ?_)))); refine AL.r (ql ag_3) ?_; refine AL.r qb ?_; refine AL.nil (AW.cond_f rfl (AW.skip (AW.seq (AW.seq (AW.region (AL.r (qa fo_28_3) ?_)))))); refine AL.r (qN ag_23) ?_; refine AL.r (qN ag_23) ?_; refine AL.r (rd_ne_Vector rfl rfl rfl) ?_; refine AL.nil (AW.cd rfl (fun h78 => ?_) (fun h78 => ?_))
      ·refine AW.seq (AW.region (AL.ra ?_)); refine AL.nil (AW.ret (r1t ?_))
       (refine congrArg (fun b => RS.s (AB b)) ?_; rw [Bool.eq_iff_iff]; simp only [noteB, frB, z6]; simp_all [-List.length_eq_zero_iff, v6_iff] <;> omega)
      ·refine AW.skip (AW.seq (AW.seq (AW.region (AL.r (qa fo_28_0) ?_)))); refine AL.r (ql ag_3) ?_; refine AL.r qb ?_; refine AL.nil (AW.cond_t rfl (AW.seq (AW.seq (AW.region (AL.ra ?_))))); refine AL.nil (AW.block (AW.loopM (ι := Nat) [2, 82, 83, 84, 85, 86, 87, 88, 89, 90, 91, 92, 93, 94, 95] (fun k => [(4, AI (k : Int))]) [] (fun k => []) (fun k => k ≤ ed.length ∧ ∀ i (hi : i < ed.length), i < k → edgeB ed[i] = true) (fun k => ed.length - k) 0 (⟨by omega, fun i _ hi => absurd hi (by omega)⟩) wk sk ?_))
       rintro k gs hJ; refine AW.nm ?_; obtain ⟨hk, hok⟩ := hJ; refine AW.seq (AW.seq (AW.region (AL.rm ?_))); refine AL.r (qa fo_28_5) ?_; refine AL.r (ql ag_25) ?_; refine AL.r (rd_len_sl rfl el_25 rfl) ?_; refine AL.r qb ?_; refine AL.nil (AW.cd rfl (fun h86 => ?_) (fun h86 => ?_))
       ·refine AW.skip (AW.seq (AW.block (AW.seq (AW.region (AL.r (qa fo_28_5) ?_))))); refine AL.r (ql ag_25) ?_; refine AL.rm ?_; refine AL.r (rd_iaddr_sl rfl el_25 rfl rfl rfl (get_E (by omega)) rfl) ?_; refine AL.r (rd_loadN_ep rfl ag_44 rfl (Nat.le_of_ble_eq_true rfl) rfl) ?_; refine AL.op rfl (AOpB.op (op_call (rtedge_c (ed[k]'(by omega)) (hs _ (List.getElem_mem _))) rfl (by kernel_rfl) rfl (none) ?_)); rintro r rfl; refine AL.n ?_; refine AL.r (rd_un rfl rfl (fun _ => rfl)) ?_; refine AL.nil (AW.cd rfl (fun h95 => ?_) (fun h95 => ?_))
        ·refine AW.seq (AW.region (AL.ra ?_)); refine AL.nil (AW.ret (r1t ?_))
         (refine congrArg (fun b => RS.s (AB b)) ?_; have hf := chB_f (p := edgeB) (k := k) (l := ed) (by omega) (by simpa using h95); simp [noteB, hf])
        ·refine AW.skip ?_; change AW _ _ _ _ _; refine AW.region ?_; refine AL.rm ?_; refine AL.r (rd_arith_add rfl rfl rfl (by first | exact IntWalk.i64_in _ (by omega) | rfl)) ?_; refine AL.ra ?_; refine AL.nil ?_; refine ⟨k + 1, ?_, by first | omega | (simp only []; omega), ?_, ?_⟩
         ·exact ⟨by omega, all_nextL (p := fun x => edgeB x = true) (by omega) hok (by simpa using h95)⟩
         ·exact wk
         ·exact sk
       ·refine AW.exit ?_; change AW _ _ _ _ _; refine AW.seq (AW.region (AL.r (qa fo_28_5) ?_)); refine AL.r (ql ag_25) ?_; refine AL.r (rd_len_sl rfl el_25 rfl) ?_; refine AL.r qb ?_; refine AL.rm ?_; refine AL.fk (d := 100) rfl (fun h100 => ?_) (fun h100 => ?_)
        ·refine AL.n ?_; refine AL.ro (qa fo_28_5) ?_; refine AL.ro (ql ag_25) ?_; refine AL.ro (rd_len_sl rfl el_25 rfl) ?_; refine AL.ro qb ?_; refine AL.r qt ?_; refine AL.rm ?_; refine AL.fk (d := 106) rfl (fun h106 => ?_) (fun h106 => ?_)
         ·refine AL.n ?_; refine AL.ro (qa fo_28_6) ?_; refine AL.ro (ql ag_26) ?_; refine AL.ro (rd_len_sl rfl el_26 rfl) ?_; refine AL.ro qb ?_; refine AL.r qt ?_; refine AL.ra ?_; refine AL.nil (AW.ret (r1t ?_))
          (refine congrArg (fun b => RS.s (AB b)) ?_; have hal : ed.all edgeB = true := List.all_eq_true.2 (fun x hx => by obtain ⟨i, hi, rfl⟩ := List.getElem_of_mem hx; exact hok i hi (by omega)); rw [Bool.eq_iff_iff]; simp only [noteB, frB, z6, chB, hal]; simp_all [-List.length_eq_zero_iff, v6_iff] <;> omega)
         ·refine AL.n ?_; (iterate 4 refine AL.rf ?_); refine AL.r qf ?_; refine AL.ra ?_; refine AL.nil (AW.ret (r1t ?_))
          (refine congrArg (fun b => RS.s (AB b)) ?_; have hal : ed.all edgeB = true := List.all_eq_true.2 (fun x hx => by obtain ⟨i, hi, rfl⟩ := List.getElem_of_mem hx; exact hok i hi (by omega)); rw [Bool.eq_iff_iff]; simp only [noteB, frB, z6, chB, hal]; simp_all [-List.length_eq_zero_iff, v6_iff] <;> omega)
        ·refine AL.n ?_; (iterate 4 refine AL.rf ?_); refine AL.r qf ?_; refine AL.rm ?_; (iterate 4 refine AL.rf ?_); refine AL.r qf ?_; refine AL.ra ?_; refine AL.nil (AW.ret (r1t ?_))
         (refine congrArg (fun b => RS.s (AB b)) ?_; have hal : ed.all edgeB = true := List.all_eq_true.2 (fun x hx => by obtain ⟨i, hi, rfl⟩ := List.getElem_of_mem hx; exact hok i hi (by omega)); rw [Bool.eq_iff_iff]; simp only [noteB, frB, z6, chB, hal]; simp_all [-List.length_eq_zero_iff, v6_iff] <;> omega)
set_option maxHeartbeats 1000000 in
theorem rright_3 (fr fm : Int) (hv : V6D) (tg : List TagD) (ed : List EdgeD) (os : List OpD) (hs : ∀ e ∈ ed, e.lens.Small) (ht : tg.length ≤ 1000) (hel : ed.length ≤ 1000) (hol : os.length ≤ 1000) : AC Tryz.prog 9 [(NoteD.mk 3 fr fm hv tg ed os).av] (fun r => r = .s (AB (noteB ⟨3, fr, fm, hv, tg, ed, os⟩))) := by
  change AC _ _ [.ag [AI 3, AI fr, AI fm, AI hv.a, AI hv.b, AI hv.c, AI hv.d, AI hv.e, AI hv.f, .sl (tg.map TagD.cs), .sl (ed.map EdgeD.cs), .sl (os.map OpD.cs)]] _; refine AC.of' 144 2 Tryz.func9 rfl ?_; change AW _ _ _ _ [TK.mk 0 .off, TK.mk 0 .off]; refine AW.seq (AW.region (AL.op rfl (AOpB.op (op_box 0 rfl rfl rfl rfl rfl ?_)))); refine AL.n ?_; refine AL.ra ?_; refine AL.nil (AW.seq (AW.seq (AW.region (AL.r (qa fo_28_1) ?_)))); refine AL.r (ql ag_3) ?_; refine AL.r qb ?_; refine AL.rm ?_; refine AL.fk (d := 9) rfl (fun h9 => ?_) (fun h9 => ?_)
  ·refine AL.n ?_; (iterate 3 refine AL.rf ?_); refine AL.r qt ?_; refine AL.nil (AW.cond_t rfl (AW.seq (AW.region (AL.ra ?_)))); refine AL.nil (AW.ret (r1t ?_))
   (refine congrArg (fun b => RS.s (AB b)) ?_; rw [Bool.eq_iff_iff]; simp only [noteB, frB, z6]; simp_all [-List.length_eq_zero_iff, v6_iff] <;> omega)
  ·refine AL.n ?_; refine AL.ro (qa fo_28_1) ?_; refine AL.ro (ql ag_3) ?_; refine AL.ro qb ?_; refine AL.r qf ?_; refine AL.nil (AW.cd rfl (fun h13 => ?_) (fun h13 => ?_))
   ·refine AW.seq (AW.region (AL.ra ?_)); refine AL.nil (AW.ret (r1t ?_))
    (refine congrArg (fun b => RS.s (AB b)) ?_; rw [Bool.eq_iff_iff]; simp only [noteB, frB, z6]; simp_all [-List.length_eq_zero_iff, v6_iff] <;> omega)
   ·refine AW.skip (AW.seq (AW.region (AL.r (rd_buildA rfl ar_23 ze_23 rfl rfl) ?_))); refine AL.op rfl (AOpB.op (op_alloc 1 rfl ze_23 rfl ?_)); refine AL.n ?_; refine AL.op rfl (op_store_ rfl rfl rfl rfl rfl sz_23 ?_); refine AL.b ?_; refine AL.nil (AW.seq (AW.seq (AW.region (AL.r (qa fo_28_0) ?_)))); refine AL.r (ql ag_3) ?_; refine AL.r qb ?_; refine AL.nil (AW.cond_f rfl (AW.skip (AW.seq (AW.seq (AW.region (AL.r (qa fo_28_2) ?_)))))); refine AL.r (ql ag_3) ?_; refine AL.r qb ?_; refine AL.rm ?_; refine AL.fk (d := 51) rfl (fun h51 => ?_) (fun h51 => ?_)
    ·refine AL.n ?_; (iterate 4 refine AL.rf ?_); refine AL.r qt ?_; refine AL.nil (AW.cond_t rfl (AW.seq (AW.region (AL.ra ?_)))); refine AL.nil (AW.ret (r1t ?_))
     (refine congrArg (fun b => RS.s (AB b)) ?_; rw [Bool.eq_iff_iff]; simp only [noteB, frB, z6]; simp_all [-List.length_eq_zero_iff, v6_iff] <;> omega)
    ·refine AL.n ?_; refine AL.ro (qa fo_28_4) ?_; refine AL.ro (ql ag_24) ?_; refine AL.ro (rd_len_sl rfl el_24 rfl) ?_; refine AL.ro qb ?_; refine AL.r qf ?_; refine AL.nil (AW.cd rfl (fun h56 => ?_) (fun h56 => ?_))
     ·refine AW.seq (AW.region (AL.ra ?_)); refine AL.nil (AW.ret (r1t ?_))
      (refine congrArg (fun b => RS.s (AB b)) ?_; rw [Bool.eq_iff_iff]; simp only [noteB, frB, z6]; simp_all [-List.length_eq_zero_iff, v6_iff] <;> omega)
     ·refine AW.skip (AW.seq (AW.seq (AW.region (AL.r (qa fo_28_0) ?_)))); refine AL.r (ql ag_3) ?_; refine AL.r qb ?_; refine AL.nil (AW.cond_f rfl (AW.skip (AW.seq (AW.seq (AW.region (AL.r (qa fo_28_3) ?_)))))); refine AL.r (qN ag_23) ?_; refine AL.r (qN ag_23) ?_; refine AL.r (rd_ne_Vector rfl rfl rfl) ?_; refine AL.nil (AW.cd rfl (fun h78 => ?_) (fun h78 => ?_))
      ·refine AW.seq (AW.region (AL.ra ?_)); refine AL.nil (AW.ret (r1t ?_))
       (refine congrArg (fun b => RS.s (AB b)) ?_; rw [Bool.eq_iff_iff]; simp only [noteB, frB, z6]; simp_all [-List.length_eq_zero_iff, v6_iff] <;> omega)
      ·refine AW.skip (AW.seq (AW.seq (AW.region (AL.r (qa fo_28_0) ?_)))); refine AL.r (ql ag_3) ?_; refine AL.r qb ?_; refine AL.nil (AW.cond_f rfl (AW.skip (AW.seq (AW.seq (AW.region (AL.r (qa fo_28_0) ?_)))))); refine AL.r (ql ag_3) ?_; refine AL.r qb ?_; refine AL.nil (AW.cond_f rfl (AW.skip (AW.seq (AW.seq (AW.region (AL.ra ?_)))))); refine AL.nil (AW.block (AW.loopM (ι := Nat) [2, 115, 116, 117, 118, 119, 120, 121, 122, 123, 124, 125, 126, 127, 128] (fun k => [(5, AI (k : Int))]) [] (fun k => []) (fun k => k ≤ os.length ∧ ∀ i (hi : i < os.length), i < k → rightO os[i] = true) (fun k => os.length - k) 0 (⟨by omega, fun i _ hi => absurd hi (by omega)⟩) wk sk ?_))
       rintro k gs hJ; refine AW.nm ?_; obtain ⟨hk, hok⟩ := hJ; refine AW.seq (AW.seq (AW.region (AL.rm ?_))); refine AL.r (qa fo_28_6) ?_; refine AL.r (ql ag_26) ?_; refine AL.r (rd_len_sl rfl el_26 rfl) ?_; refine AL.r qb ?_; refine AL.nil (AW.cd rfl (fun h119 => ?_) (fun h119 => ?_))
       ·refine AW.skip (AW.seq (AW.block (AW.seq (AW.region (AL.r (qa fo_28_6) ?_))))); refine AL.r (ql ag_26) ?_; refine AL.rm ?_; refine AL.r (rd_iaddr_sl rfl el_26 rfl rfl rfl (get_O (by omega)) rfl) ?_; refine AL.r (rd_loadN_ep rfl ag_48 rfl (Nat.le_of_ble_eq_true rfl) rfl) ?_; refine AL.op rfl (AOpB.op (op_call (oright_r (os[k]'(by omega))) rfl (by kernel_rfl) rfl (none) ?_)); rintro r rfl; refine AL.n ?_; refine AL.r (rd_un rfl rfl (fun _ => rfl)) ?_; refine AL.nil (AW.cd rfl (fun h128 => ?_) (fun h128 => ?_))
        ·refine AW.seq (AW.region (AL.ra ?_)); refine AL.nil (AW.ret (r1t ?_))
         (refine congrArg (fun b => RS.s (AB b)) ?_; have hf := chB_f (p := rightO) (k := k) (l := os) (by omega) (by simpa using h128); simp [noteB, hf])
        ·refine AW.skip ?_; change AW _ _ _ _ _; refine AW.region ?_; refine AL.rm ?_; refine AL.r (rd_arith_add rfl rfl rfl (by first | exact IntWalk.i64_in _ (by omega) | rfl)) ?_; refine AL.ra ?_; refine AL.nil ?_; refine ⟨k + 1, ?_, by first | omega | (simp only []; omega), ?_, ?_⟩
         ·exact ⟨by omega, all_nextL (p := fun x => rightO x = true) (by omega) hok (by simpa using h128)⟩
         ·exact wk
         ·exact sk
       ·refine AW.exit ?_; change AW _ _ _ _ _; refine AW.seq (AW.region (AL.r (qa fo_28_6) ?_)); refine AL.r (ql ag_26) ?_; refine AL.r (rd_len_sl rfl el_26 rfl) ?_; refine AL.r qb ?_; refine AL.rm ?_; refine AL.fk (d := 133) rfl (fun h133 => ?_) (fun h133 => ?_)
        ·refine AL.n ?_; refine AL.ro (qa fo_28_6) ?_; refine AL.ro (ql ag_26) ?_; refine AL.ro (rd_len_sl rfl el_26 rfl) ?_; refine AL.ro qb ?_; refine AL.r qt ?_; refine AL.rm ?_; refine AL.fk (d := 139) rfl (fun h139 => ?_) (fun h139 => ?_)
         ·refine AL.n ?_; refine AL.ro (qa fo_28_5) ?_; refine AL.ro (ql ag_25) ?_; refine AL.ro (rd_len_sl rfl el_25 rfl) ?_; refine AL.ro qb ?_; refine AL.r qt ?_; refine AL.ra ?_; refine AL.nil (AW.ret (r1t ?_))
          (refine congrArg (fun b => RS.s (AB b)) ?_; have hal : os.all rightO = true := List.all_eq_true.2 (fun x hx => by obtain ⟨i, hi, rfl⟩ := List.getElem_of_mem hx; exact hok i hi (by omega)); rw [Bool.eq_iff_iff]; simp only [noteB, frB, z6, chB, hal]; simp_all [-List.length_eq_zero_iff, v6_iff] <;> omega)
         ·refine AL.n ?_; (iterate 4 refine AL.rf ?_); refine AL.r qf ?_; refine AL.ra ?_; refine AL.nil (AW.ret (r1t ?_))
          (refine congrArg (fun b => RS.s (AB b)) ?_; have hal : os.all rightO = true := List.all_eq_true.2 (fun x hx => by obtain ⟨i, hi, rfl⟩ := List.getElem_of_mem hx; exact hok i hi (by omega)); rw [Bool.eq_iff_iff]; simp only [noteB, frB, z6, chB, hal]; simp_all [-List.length_eq_zero_iff, v6_iff] <;> omega)
        ·refine AL.n ?_; (iterate 4 refine AL.rf ?_); refine AL.r qf ?_; refine AL.rm ?_; (iterate 4 refine AL.rf ?_); refine AL.r qf ?_; refine AL.ra ?_; refine AL.nil (AW.ret (r1t ?_))
         (refine congrArg (fun b => RS.s (AB b)) ?_; have hal : os.all rightO = true := List.all_eq_true.2 (fun x hx => by obtain ⟨i, hi, rfl⟩ := List.getElem_of_mem hx; exact hok i hi (by omega)); rw [Bool.eq_iff_iff]; simp only [noteB, frB, z6, chB, hal]; simp_all [-List.length_eq_zero_iff, v6_iff] <;> omega)
set_option maxHeartbeats 1000000 in
theorem rright_4 (fr fm : Int) (hv : V6D) (tg : List TagD) (ed : List EdgeD) (os : List OpD) (hs : ∀ e ∈ ed, e.lens.Small) (ht : tg.length ≤ 1000) (hel : ed.length ≤ 1000) (hol : os.length ≤ 1000) : AC Tryz.prog 9 [(NoteD.mk 4 fr fm hv tg ed os).av] (fun r => r = .s (AB (noteB ⟨4, fr, fm, hv, tg, ed, os⟩))) := by
  change AC _ _ [.ag [AI 4, AI fr, AI fm, AI hv.a, AI hv.b, AI hv.c, AI hv.d, AI hv.e, AI hv.f, .sl (tg.map TagD.cs), .sl (ed.map EdgeD.cs), .sl (os.map OpD.cs)]] _; refine AC.of' 144 2 Tryz.func9 rfl ?_; change AW _ _ _ _ [TK.mk 0 .off, TK.mk 0 .off]; refine AW.seq (AW.region (AL.op rfl (AOpB.op (op_box 0 rfl rfl rfl rfl rfl ?_)))); refine AL.n ?_; refine AL.ra ?_; refine AL.nil (AW.seq (AW.seq (AW.region (AL.r (qa fo_28_1) ?_)))); refine AL.r (ql ag_3) ?_; refine AL.r qb ?_; refine AL.rm ?_; refine AL.fk (d := 9) rfl (fun h9 => ?_) (fun h9 => ?_)
  ·refine AL.n ?_; (iterate 3 refine AL.rf ?_); refine AL.r qt ?_; refine AL.nil (AW.cond_t rfl (AW.seq (AW.region (AL.ra ?_)))); refine AL.nil (AW.ret (r1t ?_))
   (refine congrArg (fun b => RS.s (AB b)) ?_; rw [Bool.eq_iff_iff]; simp only [noteB, frB, z6]; simp_all [-List.length_eq_zero_iff, v6_iff] <;> omega)
  ·refine AL.n ?_; refine AL.ro (qa fo_28_1) ?_; refine AL.ro (ql ag_3) ?_; refine AL.ro qb ?_; refine AL.r qf ?_; refine AL.nil (AW.cd rfl (fun h13 => ?_) (fun h13 => ?_))
   ·refine AW.seq (AW.region (AL.ra ?_)); refine AL.nil (AW.ret (r1t ?_))
    (refine congrArg (fun b => RS.s (AB b)) ?_; rw [Bool.eq_iff_iff]; simp only [noteB, frB, z6]; simp_all [-List.length_eq_zero_iff, v6_iff] <;> omega)
   ·refine AW.skip (AW.seq (AW.region (AL.r (rd_buildA rfl ar_23 ze_23 rfl rfl) ?_))); refine AL.op rfl (AOpB.op (op_alloc 1 rfl ze_23 rfl ?_)); refine AL.n ?_; refine AL.op rfl (op_store_ rfl rfl rfl rfl rfl sz_23 ?_); refine AL.b ?_; refine AL.nil (AW.seq (AW.seq (AW.region (AL.r (qa fo_28_0) ?_)))); refine AL.r (ql ag_3) ?_; refine AL.r qb ?_; refine AL.nil (AW.cond_f rfl (AW.skip (AW.seq (AW.seq (AW.region (AL.r (qa fo_28_2) ?_)))))); refine AL.r (ql ag_3) ?_; refine AL.r qb ?_; refine AL.rm ?_; refine AL.fk (d := 51) rfl (fun h51 => ?_) (fun h51 => ?_)
    ·refine AL.n ?_; (iterate 4 refine AL.rf ?_); refine AL.r qt ?_; refine AL.nil (AW.cond_t rfl (AW.seq (AW.region (AL.ra ?_)))); refine AL.nil (AW.ret (r1t ?_))
     (refine congrArg (fun b => RS.s (AB b)) ?_; rw [Bool.eq_iff_iff]; simp only [noteB, frB, z6]; simp_all [-List.length_eq_zero_iff, v6_iff] <;> omega)
    ·refine AL.n ?_; refine AL.ro (qa fo_28_4) ?_; refine AL.ro (ql ag_24) ?_; refine AL.ro (rd_len_sl rfl el_24 rfl) ?_; refine AL.ro qb ?_; refine AL.r qf ?_; refine AL.nil (AW.cd rfl (fun h56 => ?_) (fun h56 => ?_))
     ·refine AW.seq (AW.region (AL.ra ?_)); refine AL.nil (AW.ret (r1t ?_))
      (refine congrArg (fun b => RS.s (AB b)) ?_; rw [Bool.eq_iff_iff]; simp only [noteB, frB, z6]; simp_all [-List.length_eq_zero_iff, v6_iff] <;> omega)
     ·refine AW.skip (AW.seq (AW.seq (AW.region (AL.r (qa fo_28_0) ?_)))); refine AL.r (ql ag_3) ?_; refine AL.r qb ?_; refine AL.nil (AW.cond_t rfl (AW.seq (AW.region (AL.r (qa fo_28_3) ?_)))); refine AL.r (qN ag_23) ?_; refine AL.op rfl (AOpB.op (op_call (rdright_c hv) rfl (by kernel_rfl) rfl (none) ?_)); rintro r rfl; refine AL.n ?_; refine AL.rm ?_; refine AL.fk (d := 63) rfl (fun h63 => ?_) (fun h63 => ?_)
      ·refine AL.n ?_; refine AL.ro (qa fo_28_5) ?_; refine AL.ro (ql ag_25) ?_; refine AL.ro (rd_len_sl rfl el_25 rfl) ?_; refine AL.ro qb ?_; refine AL.r qt ?_; refine AL.rm ?_; refine AL.fk (d := 69) rfl (fun h69 => ?_) (fun h69 => ?_)
       ·refine AL.n ?_; refine AL.ro (qa fo_28_6) ?_; refine AL.ro (ql ag_26) ?_; refine AL.ro (rd_len_sl rfl el_26 rfl) ?_; refine AL.ro qb ?_; refine AL.r qt ?_; refine AL.ra ?_; refine AL.nil (AW.ret (r1t ?_))
        (refine congrArg (fun b => RS.s (AB b)) ?_; rw [Bool.eq_iff_iff]; simp only [noteB, frB, z6]; simp_all [-List.length_eq_zero_iff, v6_iff] <;> omega)
       ·refine AL.n ?_; (iterate 4 refine AL.rf ?_); refine AL.r qf ?_; refine AL.ra ?_; refine AL.nil (AW.ret (r1t ?_))
        (refine congrArg (fun b => RS.s (AB b)) ?_; rw [Bool.eq_iff_iff]; simp only [noteB, frB, z6]; simp_all [-List.length_eq_zero_iff, v6_iff] <;> omega)
      ·refine AL.n ?_; (iterate 4 refine AL.rf ?_); refine AL.r qf ?_; refine AL.rm ?_; (iterate 4 refine AL.rf ?_); refine AL.r qf ?_; refine AL.ra ?_; refine AL.nil (AW.ret (r1t ?_))
       (refine congrArg (fun b => RS.s (AB b)) ?_; rw [Bool.eq_iff_iff]; simp only [noteB, frB, z6]; simp_all [-List.length_eq_zero_iff, v6_iff] <;> omega)
set_option maxHeartbeats 1000000 in
theorem rright_o (k0 : Int) (h1 : k0 ≠ 1) (h2 : k0 ≠ 2) (h3 : k0 ≠ 3) (h4 : k0 ≠ 4) (fr fm : Int) (hv : V6D) (tg : List TagD) (ed : List EdgeD) (os : List OpD) (hs : ∀ e ∈ ed, e.lens.Small) (ht : tg.length ≤ 1000) (hel : ed.length ≤ 1000) (hol : os.length ≤ 1000) : AC Tryz.prog 9 [(NoteD.mk k0 fr fm hv tg ed os).av] (fun r => r = .s (AB (noteB ⟨k0, fr, fm, hv, tg, ed, os⟩))) := by
  change AC _ _ [.ag [AI k0, AI fr, AI fm, AI hv.a, AI hv.b, AI hv.c, AI hv.d, AI hv.e, AI hv.f, .sl (tg.map TagD.cs), .sl (ed.map EdgeD.cs), .sl (os.map OpD.cs)]] _; refine AC.of' 144 2 Tryz.func9 rfl ?_; change AW _ _ _ _ [TK.mk 0 .off, TK.mk 0 .off]; refine AW.seq (AW.region (AL.op rfl (AOpB.op (op_box 0 rfl rfl rfl rfl rfl ?_)))); refine AL.n ?_; refine AL.ra ?_; refine AL.nil (AW.seq (AW.seq (AW.region (AL.r (qa fo_28_1) ?_)))); refine AL.r (ql ag_3) ?_; refine AL.r qb ?_; refine AL.rm ?_; refine AL.fk (d := 9) rfl (fun h9 => ?_) (fun h9 => ?_)
  ·refine AL.n ?_; (iterate 3 refine AL.rf ?_); refine AL.r qt ?_; refine AL.nil (AW.cond_t rfl (AW.seq (AW.region (AL.ra ?_)))); refine AL.nil (AW.ret (r1t ?_))
   (refine congrArg (fun b => RS.s (AB b)) ?_; rw [Bool.eq_iff_iff]; simp only [noteB, frB, z6]; simp_all [-List.length_eq_zero_iff, v6_iff] <;> omega)
  ·refine AL.n ?_; refine AL.ro (qa fo_28_1) ?_; refine AL.ro (ql ag_3) ?_; refine AL.ro qb ?_; refine AL.r qf ?_; refine AL.nil (AW.cd rfl (fun h13 => ?_) (fun h13 => ?_))
   ·refine AW.seq (AW.region (AL.ra ?_)); refine AL.nil (AW.ret (r1t ?_))
    (refine congrArg (fun b => RS.s (AB b)) ?_; rw [Bool.eq_iff_iff]; simp only [noteB, frB, z6]; simp_all [-List.length_eq_zero_iff, v6_iff] <;> omega)
   ·refine AW.skip (AW.seq (AW.region (AL.r (rd_buildA rfl ar_23 ze_23 rfl rfl) ?_))); refine AL.op rfl (AOpB.op (op_alloc 1 rfl ze_23 rfl ?_)); refine AL.n ?_; refine AL.op rfl (op_store_ rfl rfl rfl rfl rfl sz_23 ?_); refine AL.b ?_; refine AL.nil (AW.seq (AW.seq (AW.region (AL.r (qa fo_28_0) ?_)))); refine AL.r (ql ag_3) ?_; refine AL.r qb ?_; refine AL.nil (AW.cd rfl (fun h17 => ?_) (fun h17 => ?_))
    ·(exfalso; first | omega | (simp_all; done))
    ·refine AW.skip (AW.seq (AW.seq (AW.region (AL.r (qa fo_28_2) ?_)))); refine AL.r (ql ag_3) ?_; refine AL.r qb ?_; refine AL.rm ?_; refine AL.fk (d := 51) rfl (fun h51 => ?_) (fun h51 => ?_)
     ·refine AL.n ?_; (iterate 4 refine AL.rf ?_); refine AL.r qt ?_; refine AL.nil (AW.cond_t rfl (AW.seq (AW.region (AL.ra ?_)))); refine AL.nil (AW.ret (r1t ?_))
      (refine congrArg (fun b => RS.s (AB b)) ?_; rw [Bool.eq_iff_iff]; simp only [noteB, frB, z6]; simp_all [-List.length_eq_zero_iff, v6_iff] <;> omega)
     ·refine AL.n ?_; refine AL.ro (qa fo_28_4) ?_; refine AL.ro (ql ag_24) ?_; refine AL.ro (rd_len_sl rfl el_24 rfl) ?_; refine AL.ro qb ?_; refine AL.r qf ?_; refine AL.nil (AW.cd rfl (fun h56 => ?_) (fun h56 => ?_))
      ·refine AW.seq (AW.region (AL.ra ?_)); refine AL.nil (AW.ret (r1t ?_))
       (refine congrArg (fun b => RS.s (AB b)) ?_; rw [Bool.eq_iff_iff]; simp only [noteB, frB, z6]; simp_all [-List.length_eq_zero_iff, v6_iff] <;> omega)
      ·refine AW.skip (AW.seq (AW.seq (AW.region (AL.r (qa fo_28_0) ?_)))); refine AL.r (ql ag_3) ?_; refine AL.r qb ?_; refine AL.nil (AW.cd rfl (fun h59 => ?_) (fun h59 => ?_))
       ·(exfalso; first | omega | (simp_all; done))
       ·refine AW.skip (AW.seq (AW.seq (AW.region (AL.r (qa fo_28_3) ?_)))); refine AL.r (qN ag_23) ?_; refine AL.r (qN ag_23) ?_; refine AL.r (rd_ne_Vector rfl rfl rfl) ?_; refine AL.nil (AW.cd rfl (fun h78 => ?_) (fun h78 => ?_))
        ·refine AW.seq (AW.region (AL.ra ?_)); refine AL.nil (AW.ret (r1t ?_))
         (refine congrArg (fun b => RS.s (AB b)) ?_; rw [Bool.eq_iff_iff]; simp only [noteB, frB, z6]; simp_all [-List.length_eq_zero_iff, v6_iff] <;> omega)
        ·refine AW.skip (AW.seq (AW.seq (AW.region (AL.r (qa fo_28_0) ?_)))); refine AL.r (ql ag_3) ?_; refine AL.r qb ?_; refine AL.nil (AW.cd rfl (fun h81 => ?_) (fun h81 => ?_))
         ·(exfalso; first | omega | (simp_all; done))
         ·refine AW.skip (AW.seq (AW.seq (AW.region (AL.r (qa fo_28_0) ?_)))); refine AL.r (ql ag_3) ?_; refine AL.r qb ?_; refine AL.nil (AW.cd rfl (fun h114 => ?_) (fun h114 => ?_))
          ·refine AW.seq (AW.region (AL.ra ?_)); refine AL.nil (AW.ret (r1t ?_))
           (refine congrArg (fun b => RS.s (AB b)) ?_; rw [Bool.eq_iff_iff]; simp only [noteB, frB, z6]; simp_all [-List.length_eq_zero_iff, v6_iff] <;> omega)
          ·(exfalso; first | omega | (simp_all; done))
theorem rright_c (n : NoteD) (h : heavyN n = false) : AC Tryz.prog 9 [n.av] (fun r => r = .s (AB (noteB n))) := by
  obtain ⟨k, fr, fm, hv, tg, ed, os⟩ := n
  have h' : ((tg.length : Int) ≤ 100 ∧ manyB (fun e => heavyL e.lens) ed 12 = false) ∧ manyB heavyO os 12 = false := by
    unfold heavyN at h
    simp only [Bool.or_eq_false_iff, decide_eq_false_iff_not] at h
    exact ⟨⟨by omega, h.1.2⟩, h.2⟩
  have he := manyB_f h'.1.2; have ho := manyB_f h'.2
  have hs : ∀ e ∈ ed, e.lens.Small := fun e hm => heavyL_small (he.2 e hm)
  have ht : tg.length ≤ 1000 := by omega
  have hel : ed.length ≤ 1000 := by omega
  have hol : os.length ≤ 1000 := by omega
  by_cases h1 : k = 1
  · subst h1; exact rright_1 fr fm hv tg ed os hs ht hel hol
  by_cases h2 : k = 2
  · subst h2; exact rright_2 fr fm hv tg ed os hs ht hel hol
  by_cases h3 : k = 3
  · subst h3; exact rright_3 fr fm hv tg ed os hs ht hel hol
  by_cases h4 : k = 4
  · subst h4; exact rright_4 fr fm hv tg ed os hs ht hel hol
  exact rright_o k h1 h2 h3 h4 fr fm hv tg ed os hs ht hel hol
end Go.Proofs.YtlapcfnmmpbeeaaGreat
