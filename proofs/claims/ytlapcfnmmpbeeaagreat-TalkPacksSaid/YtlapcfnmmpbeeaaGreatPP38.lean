/- Texts of the proof of talkPacks_holds, put together by a program: TxB. -/
import Derived.Test.YtlapcfnmmpbeeaaGreatPP36
import Derived.Test.YtlapcfnmmpbeeaaGreatPP37
set_option linter.unusedSimpArgs false
set_option linter.unusedVariables false
namespace Go.Proofs.YtlapcfnmmpbeeaaGreat
set_option maxRecDepth 100000
set_option maxRecDepth 100000
open Go.RowKit
theorem putPr_row {b : List UInt8} {f : Int} {l : List PairD} {k g T : Nat} (hk : k < l.length) : TK.mk g (.own T 1 (byA (b ++ putPr f l k ++ textP f l[k].from_ ++ textP f l[k].to))) = TK.mk g (.own T 1 (byA (b ++ putPr f l (k + 1)))) := by
  rw [putPr_s hk]; simp only [List.append_assoc]
set_option maxHeartbeats 1000000 in
theorem pput_o (b : List UInt8) (f : Int) (l : List PairD) (hb : b.length ≤ 1000000) (hf : i64R f) (h : okF f = true) (hn : l.length ≤ 20) (hp : ∀ p ∈ l, p.from_.length ≤ 200 ∧ p.to.length ≤ 200) : AC Tryz.prog 137 [.sl (byA b), .sc (.int .i64 f), .sl (l.map PairD.cs)] (fun r => r = .o 5 1 (byA (b ++ putPr f l l.length))) := by
  have hbb := byA_len b
  refine AC.of' 31 4 Tryz.func137 rfl ?_; change AW _ _ _ _ [TK.mk 0 .off, TK.mk 0 .off, TK.mk 0 .off, TK.mk 0 .off]; refine AW.seq (AW.region (AL.ra ?_)); refine AL.nil (AW.seq (AW.region ?_)); (iterate 3 refine AL.rm ?_); refine AL.r (rd_len_sl rfl el_40 rfl) ?_; refine AL.op rfl (AOpB.op (op_call (pnum_o b f (l.length : Nat) (by omega) hf ⟨by omega, by omega⟩ h) rfl (by kernel_rfl) rfl (some 0) ?_)); rintro r rfl; refine ⟨_, rfl, ?_⟩; refine AL.n ?_; refine AL.ra ?_; refine AL.nil (AW.seq (AW.seq (AW.region (AL.rm ?_)))); refine AL.r (rd_len_sl rfl el_40 rfl) ?_; refine AL.rm ?_; refine AL.nil (AW.block (AW.loopM (ι := Nat × Nat) [8, 17, 18, 19, 20, 21, 22, 23, 24, 25, 26, 27, 28, 29, 30, 31, 32] (fun ⟨k, gL⟩ => [(16, AI (k : Int)), (0, .ow 0 gL)]) [1, 2, 3] (fun ⟨k, gL⟩ => [(0, ⟨gL, .own 5 1 (byA (b ++ putPr f l k))⟩)]) (fun ⟨k, gL⟩ => k ≤ l.length) (fun ⟨k, gL⟩ => l.length - k) (0, 1) (Nat.zero_le _) wk (by simp only [anys, upds, offs, List.set_cons_zero, List.set_cons_succ]; repeat (first | exact Sk.nil _ | refine Sk.same _ ?_ | refine Sk.scr _ (by decide) ?_ | refine Sk.eq _ (by rw [putPr_0]) ?_)) ?_))
  rintro ⟨k, gL⟩ gs hJ; refine AW.nm ?_; refine AW.seq (AW.region (AL.r qb ?_)); refine AL.nil (AW.seq (AW.cd rfl (fun h17 => ?_) (fun h17 => ?_)))
  ·refine AW.skip (AW.seq (AW.block (AW.seq (AW.region ?_))))
   have l3 := textP_len f (l[k]'(by omega)).from_; have l4 := textP_len f (l[k]'(by omega)).to; have l5 := hp _ (List.getElem_mem (show k < l.length by omega)); have l6 := putPr_len (f := f) hn hp k
   refine AL.r (rd_iaddr_sl rfl el_40 rfl rfl rfl (get_mapA (by omega)) rfl) ?_; refine AL.r (rd_loadN_ep rfl ag_46 rfl (Nat.le_of_ble_eq_true rfl) rfl) ?_; refine AL.op rfl (AOpB.op (op_alloc 1 rfl ze_46 rfl ?_)); refine AL.n ?_; refine AL.op rfl (op_store_ rfl rfl rfl rfl rfl sz_46 ?_); refine AL.n ?_; refine AL.nil (AW.seq (AW.region ?_)); (iterate 2 refine AL.rm ?_); refine AL.r (qa fo_46_0) ?_; refine AL.r (ql ag_9) ?_; refine AL.op rfl (AOpB.op (op_call (ptext_n f hf (l[k]'(by omega)).from_ (by omega)) rfl (by kernel_rfl) rfl (none) ?_)); rintro r rfl; refine AL.n ?_; refine AL.op rfl (op_append rfl ap_52 rfl rfl (src_s rfl) (by simp only [byA_len, List.length_append]; omega) (by simp only [byA_len, List.length_append]; omega) ?_); refine AL.n ?_; refine AL.ra ?_; refine AL.nil ?_
   refine AW.region ?_; (iterate 2 refine AL.rm ?_); refine AL.r (qa fo_46_1) ?_; refine AL.r (ql ag_9) ?_; refine AL.op rfl (AOpB.op (op_call (ptext_n f hf (l[k]'(by omega)).to (by omega)) rfl (by kernel_rfl) rfl (none) ?_)); rintro r rfl; refine AL.n ?_; refine AL.op rfl (op_append rfl ap_52 rfl rfl (src_s rfl) (by simp only [byA_len, List.length_append]; omega) (by simp only [byA_len, List.length_append]; omega) ?_); refine AL.n ?_; refine AL.ra ?_; refine AL.nil ?_; change AW _ _ _ _ _; refine AW.region ?_; refine AL.r (rd_arith_add rfl rfl rfl (by first | exact IntWalk.i64_in _ (by omega) | rfl)) ?_; refine AL.rm ?_; refine AL.nil ?_; refine ⟨⟨k + 1, gL + 2⟩, ?_, by first | omega | (simp only []; omega), ?_, ?_⟩
   ·show k + 1 ≤ l.length; omega
   ·exact wk
   ·simp only [anys, upds, offs, List.set_cons_zero, List.set_cons_succ]; repeat (first | exact Sk.nil _ | refine Sk.same _ ?_ | refine Sk.scr _ (by decide) ?_ | refine Sk.eq _ (by first | rfl | exact putPr_row (by omega)) ?_)
  ·refine AW.exit ?_; change AW _ _ _ _ _; refine AW.seq (AW.region (AL.rm ?_)); refine AL.ra ?_; refine AL.nil (AW.ret (res1o rfl (ResV.tmp rfl) rfl ?_)); obtain rfl : k = l.length := (by omega); rfl
theorem pnum_ns (f : Int) (hf : i64R f) (z : Int) (hz : i64R z) : AC Tryz.prog 44 [.sl (byA []), .sc (.int .i64 f), .sc (.int .i64 z)] (fun r => r = .s (.sl (byA (putN f z)))) := by
  have := pnum_c [] f (by simp) hf z hz
  rwa [List.nil_append] at this
theorem fput_x (f : Int) (hf : i64R f) (h : okF f = true) (x : FldD) (hw : x.Wf) (hl : x.Light) : AC Tryz.prog 138 [.sl (byA []), .sc (.int .i64 f), x.av] (fun r => r = .s (.sl (byA (putF f x)))) := fput_c [] f x (by simp) hf h hw hl
theorem pput_6 (f : Int) (x : LensD) (hf : i64R f) (h : okF f = true) (hl : x.Light) : AC Tryz.prog 137 [.sl (byA (px5 f x)), .sc (.int .i64 f), .sl (x.forth.map PairD.cs)] (fun r => r = .o 5 1 (byA (px6 f x))) := pput_o (px5 f x) f x.forth (by have := (px5_len (f := f) hl).2.2.2.2; omega) hf h hl.forth.1 hl.forth.2
theorem pput_7 (f : Int) (x : LensD) (hf : i64R f) (h : okF f = true) (hl : x.Light) : AC Tryz.prog 137 [.sl (byA (px6 f x)), .sc (.int .i64 f), .sl (x.back.map PairD.cs)] (fun r => r = .o 5 1 (byA (px7 f x))) := pput_o (px6 f x) f x.back (by have := (px7_len (f := f) hl).1; omega) hf h hl.back.1 hl.back.2
theorem putX_t {f : Int} {x : LensD} (h : x.kind = 2 ∨ x.kind = 3) : putX f x = px7 f x ++ putF f x.field := by
  unfold putX addsB
  rw [if_pos (by simpa using h)]
theorem putX_f {f : Int} {x : LensD} (h : ¬ x.kind = 2) (h' : ¬ x.kind = 3) : putX f x = px7 f x := by
  unfold putX addsB
  rw [if_neg (by simp [h, h']), List.append_nil]
theorem putX_rt {f : Int} {x : LensD} {g T : Nat} (h : x.kind = 2 ∨ x.kind = 3) : TK.mk g (.own T 1 (byA (px7 f x ++ putF f x.field))) = TK.mk g (.own T 1 (byA (putX f x))) := by rw [putX_t h]
theorem putX_rf {f : Int} {x : LensD} {g T : Nat} (h : ¬ x.kind = 2) (h' : ¬ x.kind = 3) : TK.mk g (.own T 1 (byA (px7 f x))) = TK.mk g (.own T 1 (byA (putX f x))) := by rw [putX_f h h']
set_option maxHeartbeats 2000000 in
theorem xput_c (b : List UInt8) (f : Int) (x : LensD) (hb : b.length ≤ 1000000) (hf : i64R f) (h : okF f = true) (hw : x.Wf) (hl : x.Light) : AC Tryz.prog 95 [.sl (byA b), .sc (.int .i64 f), x.av] (fun r => r = .s (.sl (byA (b ++ putX f x)))) := by
  have c1 := hl.group; have c2 := hl.name; have c3 := hl.nm; have c4 := hl.other
  obtain ⟨p1, p2, p3, p4, p5⟩ := px5_len (f := f) hl
  obtain ⟨p6, p7⟩ := px7_len (f := f) hl
  have p8 := putF_len (f := f) hl.field
  have p9 := putX_len (f := f) hl
  have hbb := byA_len b
  change AC _ _ [.sl (byA b), .sc (.int .i64 f), .ag [AI x.kind, AI x.at_.scope, AS x.at_.group, AS x.at_.name, AS x.name, AS x.other, AI x.factor, AI x.field.at_.scope, AS x.field.at_.group, AS x.field.at_.name, AI x.field.kind, AS x.field.dflt, .sl (csS x.field.cases), AI x.field.worth, .sl (x.forth.map PairD.cs), .sl (x.back.map PairD.cs)]] _; refine AC.of' 66 7 Tryz.func95 rfl ?_; change AW _ _ _ _ [TK.mk 0 .off, TK.mk 0 .off, TK.mk 0 .off, TK.mk 0 .off, TK.mk 0 .off, TK.mk 0 .off, TK.mk 0 .off]; refine AW.seq (AW.region (AL.op rfl (AOpB.op (op_box 0 rfl rfl rfl rfl rfl ?_)))); refine AL.n ?_; refine AL.ra ?_; refine AL.nil (AW.seq (AW.region (AL.rm ?_))); refine AL.r (qa fo_42_0) ?_; refine AL.r (ql ag_3) ?_; refine AL.op rfl (AOpB.op (op_call (pnum_ns f hf x.kind hw.kind) rfl (by kernel_rfl) rfl (none) ?_))
  rintro r rfl; refine AL.n ?_; refine AL.ra ?_; refine AL.nil (AW.seq (AW.region ?_)); (iterate 2 refine AL.rm ?_); refine AL.r (qa fo_42_1) ?_; refine AL.r (qN ag_36) ?_; refine AL.op rfl (AOpB.op (op_call (pref_c (px1 f x) f (by omega) hf x.at_ hw.scope (by omega) (by omega)) rfl (by kernel_rfl) rfl (none) ?_)); rintro r rfl; refine AL.n ?_; refine AL.ra ?_; refine AL.nil (AW.seq (AW.region ?_)); (iterate 2 refine AL.rm ?_); refine AL.r (qa fo_42_2) ?_; refine AL.r (ql ag_9) ?_; refine AL.op rfl (AOpB.op (op_call (ptext_c (px2 f x) f (by omega) hf x.name (by omega)) rfl (by kernel_rfl) rfl (none) ?_)); rintro r rfl; refine AL.n ?_; refine AL.ra ?_; refine AL.nil ?_
  change AW _ _ _ _ _; refine AW.seq (AW.region ?_); (iterate 2 refine AL.rm ?_); refine AL.r (qa fo_42_3) ?_; refine AL.r (ql ag_9) ?_; refine AL.op rfl (AOpB.op (op_call (ptext_c (px3 f x) f (by omega) hf x.other (by omega)) rfl (by kernel_rfl) rfl (none) ?_)); rintro r rfl; refine AL.n ?_; refine AL.ra ?_; refine AL.nil (AW.seq (AW.region ?_)); (iterate 2 refine AL.rm ?_); refine AL.r (qa fo_42_4) ?_; refine AL.r (ql ag_2) ?_; refine AL.op rfl (AOpB.op (op_call (pnum_c (px4 f x) f (by omega) hf x.factor hw.factor) rfl (by kernel_rfl) rfl (none) ?_)); rintro r rfl; refine AL.n ?_; refine AL.ra ?_; refine AL.nil (AW.seq (AW.region ?_)); (iterate 2 refine AL.rm ?_); refine AL.r (qa fo_42_6) ?_
  refine AL.r (ql ag_40) ?_; refine AL.op rfl (AOpB.op (op_call (pput_6 f x hf h hl) rfl (by kernel_rfl) rfl (some 1) ?_)); rintro r rfl; refine ⟨_, rfl, ?_⟩; refine AL.n ?_; refine AL.ra ?_; refine AL.nil (AW.seq (AW.region (AL.settle 7 rfl rfl (by first | rfl | exact cont_owM _ _ _ _) ?_))); refine AL.no ?_; (iterate 2 refine AL.rm ?_); refine AL.r (qa fo_42_7) ?_; refine AL.r (ql ag_40) ?_; refine AL.op rfl (AOpB.op (op_call (pput_7 f x hf h hl) rfl (by kernel_rfl) rfl (some 2) ?_)); rintro r rfl; refine ⟨_, rfl, ?_⟩; refine AL.n ?_; refine AL.ra ?_; refine AL.nil (AW.join (ι := Nat) [43, 44, 45, 46, 47, 48, 49, 50, 51, 52, 53, 54, 55, 56] (fun g => [(7, .ow 2 g)]) [3] (fun g => [(2, ⟨g, .own 5 1 (byA (putX f x))⟩)]) (fun g => True) ?_ ?_)
  ·refine AW.seq (AW.region (AL.r (qa fo_42_0) ?_)); refine AL.r (ql ag_3) ?_; refine AL.r qb ?_; refine AL.rm ?_; refine AL.fk (d := 46) rfl (fun h46 => ?_) (fun h46 => ?_)
   ·refine AL.n ?_; (iterate 3 refine AL.rf ?_); refine AL.r qt ?_; refine AL.nil (AW.cond_t rfl (AW.region ?_)); (iterate 2 refine AL.rm ?_); refine AL.r (qa fo_42_5) ?_; refine AL.r (qN ag_39) ?_; refine AL.op rfl (AOpB.op (op_call (fput_x f hf h x.field hw.field hl.field) rfl (by kernel_rfl) rfl (none) ?_)); rintro r rfl; refine AL.n ?_; refine AL.op rfl (op_append rfl ap_52 rfl rfl (src_s rfl) (by simp only [byA_len]; omega) (by simp only [byA_len]; omega) ?_); refine AL.n ?_; refine AL.ra ?_; refine AL.nil ?_; refine ⟨2, trivial, wk, (by simp only [anys, upds, offs, List.set_cons_zero, List.set_cons_succ]; repeat (first | exact Sk.nil _ | refine Sk.same _ ?_ | refine Sk.scr _ (by decide) ?_ | refine Sk.eq _ (by first | exact putX_rt (.inl (by assumption)) | exact putX_rt (.inr (by assumption)) | exact putX_rf (by assumption) (by assumption)) ?_))⟩
   ·refine AL.n ?_; refine AL.ro (qa fo_42_0) ?_; refine AL.ro (ql ag_3) ?_; refine AL.ro qb ?_; refine AL.r qf ?_; refine AL.nil (AW.cd rfl (fun h50 => ?_) (fun h50 => ?_))
    ·refine AW.region ?_; (iterate 2 refine AL.rm ?_); refine AL.r (qa fo_42_5) ?_; refine AL.r (qN ag_39) ?_; refine AL.op rfl (AOpB.op (op_call (fput_x f hf h x.field hw.field hl.field) rfl (by kernel_rfl) rfl (none) ?_)); rintro r rfl; refine AL.n ?_; refine AL.op rfl (op_append rfl ap_52 rfl rfl (src_s rfl) (by simp only [byA_len]; omega) (by simp only [byA_len]; omega) ?_); refine AL.n ?_; refine AL.ra ?_; refine AL.nil ?_; refine ⟨2, trivial, wk, (by simp only [anys, upds, offs, List.set_cons_zero, List.set_cons_succ]; repeat (first | exact Sk.nil _ | refine Sk.same _ ?_ | refine Sk.scr _ (by decide) ?_ | refine Sk.eq _ (by first | exact putX_rt (.inl (by assumption)) | exact putX_rt (.inr (by assumption)) | exact putX_rf (by assumption) (by assumption)) ?_))⟩
    ·refine AW.skip ?_; refine ⟨1, trivial, wk, (by simp only [anys, upds, offs, List.set_cons_zero, List.set_cons_succ]; repeat (first | exact Sk.nil _ | refine Sk.same _ ?_ | refine Sk.scr _ (by decide) ?_ | refine Sk.eq _ (by first | exact putX_rt (.inl (by assumption)) | exact putX_rt (.inr (by assumption)) | exact putX_rf (by assumption) (by assumption)) ?_))⟩
  ·rintro g gs50 hJ50; refine AW.nm ?_
   (try dsimp only at hJ50)
   change AW _ _ _ _ _; refine AW.seq (AW.region (AL.rm ?_)); refine AL.r (rd_len_sl rfl el_52 rfl) ?_; refine AL.rm ?_; refine AL.r (rd_len_ow rfl el_52 rfl rfl) ?_; refine AL.r (rd_arith_add rfl rfl rfl (by first | exact IntWalk.i64_in _ (by omega) | rfl)) ?_; refine AL.op rfl (AOpB.op (op_make0 4 rfl ap_52 rfl rfl (n := b.length + (putX f x).length) (by omega) (by omega) (by omega) rfl ?_)); refine AL.n ?_; refine AL.ra ?_; refine AL.nil (AW.seq (AW.region ?_)); (iterate 2 refine AL.rm ?_); refine AL.op rfl (op_append rfl ap_52 rfl rfl (src_s rfl) (by first | omega | (simp; omega) | simp) (by first | omega | (simp; omega) | simp) ?_); refine AL.n ?_; refine AL.ra ?_; refine AL.nil (AW.seq (AW.region ?_)); (iterate 2 refine AL.rm ?_); refine AL.op rfl (op_append rfl ap_52 rfl rfl (src_ow rfl rfl) (by simp only [byA_len, List.nil_append, List.length_append]; omega) (by simp only [byA_len, List.nil_append, List.length_append]; omega) ?_)
   refine AL.n ?_; refine AL.ra ?_; refine AL.nil (AW.ret (res1 rfl (ResV.tmp rfl) (by first | rfl | exact setA_own rfl) ?_)); rw [List.nil_append, byA_app]
set_option maxHeartbeats 1000000 in
theorem eput_c (b : List UInt8) (f : Int) (e : EdgeD) (hb : b.length ≤ 1000000) (hf : i64R f) (h : okF f = true) (hw : e.Wf) (hl : e.lens.Light) : AC Tryz.prog 49 [.sl (byA b), .sc (.int .i64 f), e.av] (fun r => r = .s (.sl (byA (b ++ putE f e)))) := by
  have p1 := tagP_len f e.id; have p2 := tagP_len f e.par; have p3 := putX_len (f := f) hl; have p4 := putE_len (f := f) hl
  have p5 : (tagP f e.id ++ tagP f e.par).length ≤ 40 := by rw [List.length_append]; omega
  have p6 : (tagP f e.id ++ tagP f e.par ++ putX f e.lens).length ≤ 26000 := by rw [List.length_append]; omega
  have hbb := byA_len b
  change AC _ _ [.sl (byA b), .sc (.int .i64 f), .ag [AI e.id.rep, AI e.id.n, AI e.par.rep, AI e.par.n, AI e.lens.kind, AI e.lens.at_.scope, AS e.lens.at_.group, AS e.lens.at_.name, AS e.lens.name, AS e.lens.other, AI e.lens.factor, AI e.lens.field.at_.scope, AS e.lens.field.at_.group, AS e.lens.field.at_.name, AI e.lens.field.kind, AS e.lens.field.dflt, .sl (csS e.lens.field.cases), AI e.lens.field.worth, .sl (e.lens.forth.map PairD.cs), .sl (e.lens.back.map PairD.cs)]] _; refine AC.of' 32 4 Tryz.func49 rfl ?_; change AW _ _ _ _ [TK.mk 0 .off, TK.mk 0 .off, TK.mk 0 .off, TK.mk 0 .off]; refine AW.seq (AW.region (AL.op rfl (AOpB.op (op_box 0 rfl rfl rfl rfl rfl ?_)))); refine AL.n ?_; refine AL.ra ?_; refine AL.nil (AW.seq (AW.region (AL.rm ?_))); refine AL.r (qa fo_44_0) ?_; refine AL.r (qN ag_34) ?_
  refine AL.op rfl (AOpB.op (op_call (ptag_n f hf e.id hw.id1 hw.id2) rfl (by kernel_rfl) rfl (none) ?_)); rintro r rfl; refine AL.n ?_; refine AL.ra ?_; refine AL.nil (AW.seq (AW.region ?_)); (iterate 2 refine AL.rm ?_); refine AL.r (qa fo_44_1) ?_; refine AL.r (qN ag_34) ?_; refine AL.op rfl (AOpB.op (op_call (ptag_c (tagP f e.id) f (by omega) hf e.par hw.par1 hw.par2) rfl (by kernel_rfl) rfl (none) ?_)); rintro r rfl; refine AL.n ?_; refine AL.ra ?_; refine AL.nil (AW.seq (AW.region ?_)); (iterate 2 refine AL.rm ?_); refine AL.r (qa fo_44_2) ?_; refine AL.r (qN ag_42) ?_; refine AL.op rfl (AOpB.op (op_call (xput_c (tagP f e.id ++ tagP f e.par) f e.lens (by omega) hf h hw.lens hl) rfl (by kernel_rfl) rfl (none) ?_))
  rintro r rfl; refine AL.n ?_; refine AL.ra ?_; refine AL.nil (AW.seq (AW.region (AL.rm ?_))); refine AL.r (rd_len_sl rfl el_52 rfl) ?_; refine AL.rm ?_; refine AL.r (rd_len_sl rfl el_52 rfl) ?_; refine AL.r (rd_arith_add rfl rfl rfl (by first | exact IntWalk.i64_in _ (by omega) | rfl)) ?_; refine AL.op rfl (AOpB.op (op_make0 1 rfl ap_52 rfl rfl (n := b.length + ((tagP f e.id).length + (tagP f e.par).length + (putX f e.lens).length)) (by omega) (by omega) (by omega) rfl ?_)); refine AL.n ?_; refine AL.ra ?_; refine AL.nil (AW.seq (AW.region ?_)); (iterate 2 refine AL.rm ?_); refine AL.op rfl (op_append rfl ap_52 rfl rfl (src_s rfl) (by first | omega | (simp; omega) | simp) (by first | omega | (simp; omega) | simp) ?_); refine AL.n ?_; refine AL.ra ?_; refine AL.nil (AW.seq ?_)
  refine AW.region ?_; (iterate 2 refine AL.rm ?_); refine AL.op rfl (op_append rfl ap_52 rfl rfl (src_s rfl) (by simp only [byA_len, List.nil_append, List.length_append]; omega) (by simp only [byA_len, List.nil_append, List.length_append]; omega) ?_); refine AL.n ?_; refine AL.ra ?_; refine AL.nil (AW.ret (res1 rfl (ResV.tmp rfl) (by first | rfl | exact setA_own rfl) ?_)); rw [List.nil_append, byA_app]; rfl
structure V6D.Wf (v : V6D) : Prop where
  a : i64R v.a
  b : i64R v.b
  c : i64R v.c
  d : i64R v.d
  e : i64R v.e
  f : i64R v.f
def vecP (f : Int) (v : V6D) : List UInt8 := putN f v.a ++ putN f v.b ++ putN f v.c ++ putN f v.d ++ putN f v.e ++ putN f v.f
theorem vecP_len (f : Int) (v : V6D) : (vecP f v).length ≤ 60 := by
  have := putN_len f v.a; have := putN_len f v.b; have := putN_len f v.c; have := putN_len f v.d; have := putN_len f v.e; have := putN_len f v.f
  unfold vecP
  simp only [List.length_append]; omega
theorem vput_c (b : List UInt8) (f : Int) (v : V6D) (hb : b.length ≤ 1000000) (hf : i64R f) (hw : v.Wf) : AC Tryz.prog 45 [.sl (byA b), .sc (.int .i64 f), v.av] (fun r => r = .s (.sl (byA (b ++ vecP f v)))) := by
  have a1 := putN_len f v.a; have a2 := putN_len f v.b; have a3 := putN_len f v.c; have a4 := putN_len f v.d; have a5 := putN_len f v.e; have a6 := vecP_len f v
  have hbb := byA_len b
  change AC _ _ [.sl (byA b), .sc (.int .i64 f), .ag [AI v.a, AI v.b, AI v.c, AI v.d, AI v.e, AI v.f]] _; refine AC.of' 19 1 Tryz.func45 rfl ?_; change AW _ _ _ _ [TK.mk 0 .off]; refine AW.seq (AW.region (AL.op rfl (AOpB.op (op_box 0 rfl rfl rfl rfl rfl ?_)))); refine AL.n ?_; refine AL.ra ?_; refine AL.nil (AW.seq (AW.region (AL.ra ?_))); refine AL.nil (AW.seq (AW.seq (AW.region (AL.rm ?_)))); refine AL.nil (AW.block (AW.unroll 7 ?_)); change AW _ _ _ _ _; refine AW.seq (AW.region (AL.r qb ?_)); refine AL.nil (AW.seq (AW.cond_t rfl (AW.skip (AW.seq (AW.block (AW.seq (AW.region ?_)))))))
  refine AL.rm ?_; refine AL.ra ?_; refine AL.nil (AW.region ?_); (iterate 3 refine AL.rm ?_); refine AL.r (rd_iaddr_bx_ 0 rfl ar_23 rfl rfl rfl) ?_; refine AL.r (ql ag_3) ?_; refine AL.op rfl (AOpB.op (op_call (cput_ns f v.a hf hw.a) rfl (by kernel_rfl) rfl (none) ?_)); rintro r rfl; refine AL.n ?_; refine AL.ra ?_; refine AL.nil (AW.region (AL.r (rd_arith_add rfl rfl rfl (rfl : _ = (1 : Int))) ?_)); refine AL.rm ?_; refine AL.nil (AW.seq (AW.region (AL.r qb ?_))); refine AL.nil (AW.seq (AW.cond_t rfl (AW.skip (AW.seq (AW.block (AW.seq (AW.region (AL.rm ?_)))))))); refine AL.ra ?_; refine AL.nil ?_
  change AW _ _ _ _ _; refine AW.region ?_; (iterate 3 refine AL.rm ?_); refine AL.r (rd_iaddr_bx_ 1 rfl ar_23 rfl rfl rfl) ?_; refine AL.r (ql ag_3) ?_; refine AL.op rfl (AOpB.op (op_call (cput_s (putN f v.a) f v.b hf hw.b (by omega)) rfl (by kernel_rfl) rfl (none) ?_)); rintro r rfl; refine AL.n ?_; refine AL.ra ?_; refine AL.nil (AW.region (AL.r (rd_arith_add rfl rfl rfl (rfl : _ = (2 : Int))) ?_)); refine AL.rm ?_; refine AL.nil (AW.seq (AW.region (AL.r qb ?_))); refine AL.nil (AW.seq (AW.cond_t rfl (AW.skip (AW.seq (AW.block (AW.seq (AW.region (AL.rm ?_)))))))); refine AL.ra ?_; refine AL.nil ?_
  refine AW.region ?_; (iterate 3 refine AL.rm ?_); refine AL.r (rd_iaddr_bx_ 2 rfl ar_23 rfl rfl rfl) ?_; refine AL.r (ql ag_3) ?_; refine AL.op rfl (AOpB.op (op_call (cput_s (putN f v.a ++ putN f v.b) f v.c hf hw.c (by simp only [List.length_append]; omega)) rfl (by kernel_rfl) rfl (none) ?_)); rintro r rfl; refine AL.n ?_; refine AL.ra ?_; refine AL.nil (AW.region (AL.r (rd_arith_add rfl rfl rfl (rfl : _ = (3 : Int))) ?_)); refine AL.rm ?_; refine AL.nil (AW.seq (AW.region (AL.r qb ?_))); refine AL.nil (AW.seq (AW.cond_t rfl (AW.skip (AW.seq (AW.block (AW.seq (AW.region (AL.rm ?_)))))))); refine AL.ra ?_; refine AL.nil ?_
  change AW _ _ _ _ _; refine AW.region ?_; (iterate 3 refine AL.rm ?_); refine AL.r (rd_iaddr_bx_ 3 rfl ar_23 rfl rfl rfl) ?_; refine AL.r (ql ag_3) ?_; refine AL.op rfl (AOpB.op (op_call (cput_s (putN f v.a ++ putN f v.b ++ putN f v.c) f v.d hf hw.d (by simp only [List.length_append]; omega)) rfl (by kernel_rfl) rfl (none) ?_)); rintro r rfl; refine AL.n ?_; refine AL.ra ?_; refine AL.nil (AW.region (AL.r (rd_arith_add rfl rfl rfl (rfl : _ = (4 : Int))) ?_)); refine AL.rm ?_; refine AL.nil (AW.seq (AW.region (AL.r qb ?_))); refine AL.nil (AW.seq (AW.cond_t rfl (AW.skip (AW.seq (AW.block (AW.seq (AW.region (AL.rm ?_))))))))
  refine AL.ra ?_; refine AL.nil (AW.region ?_); (iterate 3 refine AL.rm ?_); refine AL.r (rd_iaddr_bx_ 4 rfl ar_23 rfl rfl rfl) ?_; refine AL.r (ql ag_3) ?_; refine AL.op rfl (AOpB.op (op_call (cput_s (putN f v.a ++ putN f v.b ++ putN f v.c ++ putN f v.d) f v.e hf hw.e (by simp only [List.length_append]; omega)) rfl (by kernel_rfl) rfl (none) ?_)); rintro r rfl; refine AL.n ?_; refine AL.ra ?_; refine AL.nil (AW.region (AL.r (rd_arith_add rfl rfl rfl (rfl : _ = (5 : Int))) ?_)); refine AL.rm ?_; refine AL.nil (AW.seq (AW.region (AL.r qb ?_))); refine AL.nil (AW.seq (AW.cond_t rfl (AW.skip (AW.seq (AW.block ?_)))))
  refine AW.seq (AW.region (AL.rm ?_)); refine AL.ra ?_; refine AL.nil (AW.region ?_); (iterate 3 refine AL.rm ?_); refine AL.r (rd_iaddr_bx_ 5 rfl ar_23 rfl rfl rfl) ?_; refine AL.r (ql ag_3) ?_; refine AL.op rfl (AOpB.op (op_call (cput_s (putN f v.a ++ putN f v.b ++ putN f v.c ++ putN f v.d ++ putN f v.e) f v.f hf hw.f (by simp only [List.length_append]; omega)) rfl (by kernel_rfl) rfl (none) ?_)); rintro r rfl; refine AL.n ?_; refine AL.ra ?_; refine AL.nil (AW.region (AL.r (rd_arith_add rfl rfl rfl (rfl : _ = (6 : Int))) ?_)); refine AL.rm ?_; refine AL.nil (AW.seq (AW.region (AL.r qb ?_))); refine AL.nil (AW.seq (AW.cond_f rfl (AW.exit ?_)))
  change AW _ _ _ _ _; refine AW.seq (AW.region ?_); (iterate 2 refine AL.rm ?_); refine AL.op rfl (AOpB.op (op_call (join_c b (vecP f v) (by omega) (by omega)) rfl (by kernel_rfl) rfl (none) ?_)); rintro r rfl; refine AL.n ?_; refine AL.ra ?_; refine AL.nil (AW.ret (r1t ?_)); rfl
theorem putO_len2 {f : Int} {o : OpD} (h : o.Light) : (putO f o).length ≤ 6000 := by
  have := po12_len (f := f) h o.drops.length
  have := h.drops
  unfold putO; omega
def lstP {α : Type} (p : α → List UInt8) (b : List UInt8) (f : Int) (l : List α) (k : Nat) : List UInt8 := b ++ putN f (l.length : Nat) ++ (l.take k).flatMap p
theorem lstP_0 {α : Type} {p : α → List UInt8} {b : List UInt8} {f : Int} {l : List α} : lstP p b f l 0 = b ++ putN f (l.length : Nat) := by unfold lstP; simp
theorem lstP_s {α : Type} {p : α → List UInt8} {b : List UInt8} {f : Int} {l : List α} {k : Nat} (h : k < l.length) : lstP p b f l (k + 1) = lstP p b f l k ++ p l[k] := by
  unfold lstP
  rw [← List.take_append_getElem h, List.flatMap_append]; simp
theorem lstP_len {α : Type} {p : α → List UInt8} {b : List UInt8} {f : Int} {l : List α} {m : Nat} (h : ∀ x ∈ l, (p x).length ≤ m) (k : Nat) (hk : k ≤ l.length) : (lstP p b f l k).length ≤ b.length + 10 + m * k := by
  have hn := putN_len f (l.length : Nat)
  have key : ∀ q : List α, (∀ x ∈ q, (p x).length ≤ m) → (q.flatMap p).length ≤ m * q.length := fun q => by
    induction q with
    | nil => intro _; simp
    | cons x q ih =>
      intro hq
      have h1 := hq x (by simp); have h2 := ih fun y hy => hq y (by simp [hy])
      simp only [List.flatMap_cons, List.length_append, List.length_cons, Nat.mul_succ]; omega
  have := key (l.take k) fun x hx => h x (List.mem_of_mem_take hx)
  rw [List.length_take, Nat.min_eq_left hk] at this
  unfold lstP
  simp only [List.length_append]; omega
section
variable (b : List UInt8) (f : Int) (hb : b.length ≤ 10000) (hf : i64R f) (h : okF f = true)
include hb hf
theorem tput_t (l : List TagD) (hn : l.length ≤ 100) (hw : ∀ t ∈ l, i64R t.rep ∧ i64R t.n) : AC Tryz.prog 46 [.sl (byA b), .sc (.int .i64 f), .sl (l.map TagD.cs), .sc (.func (.func 47) #[] #[])] (fun r => r = .s (.sl (byA (lstP (tagP f) b f l l.length)))) := by
  have hlen : ∀ k, k ≤ l.length → (lstP (tagP f) b f l k).length ≤ 20000 := fun k hk => by
    have := lstP_len (b := b) (f := f) (fun x _ => tagP_len f x) k hk
    omega
  have step : ∀ k (hk : k < l.length), AC Tryz.prog 47 [.sl (byA (lstP (tagP f) b f l k)), .sc (.int .i64 f), .ag [AI l[k].rep, AI l[k].n]] (fun r => r = .s (.sl (byA (lstP (tagP f) b f l (k + 1))))) := fun k hk => by
    rw [lstP_s hk]
    exact ptag_c (lstP (tagP f) b f l k) f (by have := hlen k (by omega); omega) hf l[k] (hw _ (List.getElem_mem _)).1 (hw _ (List.getElem_mem _)).2
  refine AC.of' 25 1 Tryz.func46 rfl ?_; change AW _ _ _ _ [TK.mk 0 .off]; refine AW.seq (AW.region (AL.ra ?_)); refine AL.nil (AW.seq (AW.region ?_)); (iterate 3 refine AL.rm ?_); refine AL.r (rd_len_sl rfl el_24 rfl) ?_; refine AL.op rfl (AOpB.op (op_call (pnum_c b f (by omega) hf (l.length : Nat) ⟨by omega, by omega⟩) rfl (by kernel_rfl) rfl (none) ?_)); rintro r rfl; refine AL.n ?_; refine AL.ra ?_; refine AL.nil (AW.seq (AW.seq (AW.region ?_))); rw [← lstP_0 (p := tagP f)]; refine AL.rm ?_; refine AL.r (rd_len_sl rfl el_24 rfl) ?_; refine AL.rm ?_; refine AL.nil (AW.block (AW.loopM (ι := Nat) [10, 19, 20, 21, 22, 23, 24, 25, 26, 27] (fun k => [(18, AI (k : Int)), (0, .sl (byA (lstP (tagP f) b f l k)))]) [0] (fun k => []) (fun k => k ≤ l.length) (fun k => l.length - k) 0 (Nat.zero_le _) wk sk ?_))
  rintro k gs hJ; refine AW.nm ?_; refine AW.seq (AW.region (AL.r qb ?_)); refine AL.nil (AW.seq (AW.cd rfl (fun h19 => ?_) (fun h19 => ?_)))
  ·refine AW.skip (AW.seq (AW.block (AW.seq (AW.region (AL.r (rd_iaddr_sl rfl el_24 rfl rfl rfl (get_mapA (by omega)) rfl) ?_))))); refine AL.r (rd_loadN_ep rfl ag_34 rfl (Nat.le_of_ble_eq_true rfl) rfl) ?_; refine AL.op rfl (AOpB.op (op_alloc 0 rfl ze_34 rfl ?_)); refine AL.n ?_; refine AL.op rfl (op_store_ rfl rfl rfl rfl rfl sz_34 ?_); refine AL.n ?_; refine AL.nil (AW.region ?_); (iterate 3 refine AL.rm ?_); refine AL.r (qN ag_34) ?_; refine AL.op rfl (AOpB.op (op_callv (step k (by omega)) rfl rfl (by kernel_rfl) rfl (none) ?_)); rintro r rfl; refine AL.n ?_; refine AL.ra ?_; refine AL.nil (AW.region (AL.r (rd_arith_add rfl rfl rfl (by first | exact IntWalk.i64_in _ (by omega) | rfl)) ?_))
   refine AL.rm ?_; refine AL.nil ?_; refine ⟨k + 1, ?_, by first | omega | (simp only []; omega), ?_, ?_⟩
   ·show k + 1 ≤ l.length; omega
   ·exact wk
   ·exact sk
  ·refine AW.exit ?_; change AW _ _ _ _ _; refine AW.seq (AW.region (AL.rm ?_)); refine AL.ra ?_; refine AL.nil (AW.ret (r1t ?_)); obtain rfl : k = l.length := (by omega); rfl
include h
theorem tput_e (l : List EdgeD) (hn : l.length ≤ 6) (hw : ∀ e ∈ l, e.Wf) (hl : ∀ e ∈ l, e.lens.Light) : AC Tryz.prog 48 [.sl (byA b), .sc (.int .i64 f), .sl (l.map EdgeD.cs), .sc (.func (.func 49) #[] #[])] (fun r => r = .s (.sl (byA (lstP (putE f) b f l l.length)))) := by
  have hlen : ∀ k, k ≤ l.length → (lstP (putE f) b f l k).length ≤ 200000 := fun k hk => by
    have := lstP_len (p := putE f) (b := b) (f := f) (fun x hx => putE_len (f := f) (hl x hx)) k hk
    omega
  have step : ∀ k (hk : k < l.length), AC Tryz.prog 49 [.sl (byA (lstP (putE f) b f l k)), .sc (.int .i64 f), .ag [AI l[k].id.rep, AI l[k].id.n, AI l[k].par.rep, AI l[k].par.n, AI l[k].lens.kind, AI l[k].lens.at_.scope, AS l[k].lens.at_.group, AS l[k].lens.at_.name, AS l[k].lens.name, AS l[k].lens.other, AI l[k].lens.factor, AI l[k].lens.field.at_.scope, AS l[k].lens.field.at_.group, AS l[k].lens.field.at_.name, AI l[k].lens.field.kind, AS l[k].lens.field.dflt, .sl (csS l[k].lens.field.cases), AI l[k].lens.field.worth, .sl (l[k].lens.forth.map PairD.cs), .sl (l[k].lens.back.map PairD.cs)]] (fun r => r = .s (.sl (byA (lstP (putE f) b f l (k + 1))))) := fun k hk => by
    rw [lstP_s hk]
    exact eput_c (lstP (putE f) b f l k) f l[k] (by have := hlen k (by omega); omega) hf h (hw _ (List.getElem_mem _)) (hl _ (List.getElem_mem _))
  refine AC.of' 25 1 Tryz.func48 rfl ?_; change AW _ _ _ _ [TK.mk 0 .off]; refine AW.seq (AW.region (AL.ra ?_)); refine AL.nil (AW.seq (AW.region ?_)); (iterate 3 refine AL.rm ?_); refine AL.r (rd_len_sl rfl el_25 rfl) ?_; refine AL.op rfl (AOpB.op (op_call (pnum_c b f (by omega) hf (l.length : Nat) ⟨by omega, by omega⟩) rfl (by kernel_rfl) rfl (none) ?_)); rintro r rfl; refine AL.n ?_; refine AL.ra ?_; refine AL.nil (AW.seq (AW.seq (AW.region ?_))); rw [← lstP_0 (p := putE f)]; refine AL.rm ?_; refine AL.r (rd_len_sl rfl el_25 rfl) ?_; refine AL.rm ?_; refine AL.nil (AW.block (AW.loopM (ι := Nat) [10, 19, 20, 21, 22, 23, 24, 25, 26, 27] (fun k => [(18, AI (k : Int)), (0, .sl (byA (lstP (putE f) b f l k)))]) [0] (fun k => []) (fun k => k ≤ l.length) (fun k => l.length - k) 0 (Nat.zero_le _) wk sk ?_))
  rintro k gs hJ; refine AW.nm ?_; refine AW.seq (AW.region (AL.r qb ?_)); refine AL.nil (AW.seq (AW.cd rfl (fun h19 => ?_) (fun h19 => ?_)))
  ·refine AW.skip (AW.seq (AW.block (AW.seq (AW.region (AL.r (rd_iaddr_sl rfl el_25 rfl rfl rfl (get_E (by omega)) rfl) ?_))))); refine AL.r (rd_loadN_ep rfl ag_44 rfl (Nat.le_of_ble_eq_true rfl) rfl) ?_; refine AL.op rfl (AOpB.op (op_alloc 0 rfl ze_44 rfl ?_)); refine AL.n ?_; refine AL.op rfl (op_store_ rfl rfl rfl rfl rfl sz_44 ?_); refine AL.b ?_; refine AL.nil (AW.region ?_); (iterate 3 refine AL.rm ?_); refine AL.r (qN ag_44) ?_; refine AL.op rfl (AOpB.op (op_callv (step k (by omega)) rfl rfl (by kernel_rfl) rfl (none) ?_)); rintro r rfl; refine AL.n ?_; refine AL.ra ?_; refine AL.nil (AW.region (AL.r (rd_arith_add rfl rfl rfl (by first | exact IntWalk.i64_in _ (by omega) | rfl)) ?_))
   refine AL.rm ?_; refine AL.nil ?_; refine ⟨k + 1, ?_, by first | omega | (simp only []; omega), ?_, ?_⟩
   ·show k + 1 ≤ l.length; omega
   ·exact wk
   ·exact sk
  ·refine AW.exit ?_; change AW _ _ _ _ _; refine AW.seq (AW.region (AL.rm ?_)); refine AL.ra ?_; refine AL.nil (AW.ret (r1t ?_)); obtain rfl : k = l.length := (by omega); rfl
theorem tput_o (l : List OpD) (hn : l.length ≤ 6) (hw : ∀ o ∈ l, o.Wf) (hl : ∀ o ∈ l, o.Light) : AC Tryz.prog 50 [.sl (byA b), .sc (.int .i64 f), .sl (l.map OpD.cs), .sc (.func (.func 51) #[] #[])] (fun r => r = .s (.sl (byA (lstP (putO f) b f l l.length)))) := by
  have hlen : ∀ k, k ≤ l.length → (lstP (putO f) b f l k).length ≤ 200000 := fun k hk => by
    have := lstP_len (p := putO f) (b := b) (f := f) (fun x hx => putO_len2 (f := f) (hl x hx)) k hk
    omega
  have step : ∀ k (hk : k < l.length), AC Tryz.prog 51 [.sl (byA (lstP (putO f) b f l k)), .sc (.int .i64 f), .ag [AI l[k].id.rep, AI l[k].id.n, AI l[k].schema.rep, AI l[k].schema.n, AI l[k].time, AS l[k].cart, AI l[k].kind, AS l[k].item, AI l[k].at_.scope, AS l[k].at_.group, AS l[k].at_.name, AI l[k].delta, AB l[k].has, AS l[k].text, .sl (l[k].drops.map TagD.cs)]] (fun r => r = .s (.sl (byA (lstP (putO f) b f l (k + 1))))) := fun k hk => by
    rw [lstP_s hk]
    have := oput_c (lstP (putO f) b f l k) f l[k] (by have := hlen k (by omega); omega) hf (hw _ (List.getElem_mem _)) (hl _ (List.getElem_mem _))
    rw [if_pos h] at this
    exact this
  refine AC.of' 25 1 Tryz.func50 rfl ?_; change AW _ _ _ _ [TK.mk 0 .off]; refine AW.seq (AW.region (AL.ra ?_)); refine AL.nil (AW.seq (AW.region ?_)); (iterate 3 refine AL.rm ?_); refine AL.r (rd_len_sl rfl el_26 rfl) ?_; refine AL.op rfl (AOpB.op (op_call (pnum_c b f (by omega) hf (l.length : Nat) ⟨by omega, by omega⟩) rfl (by kernel_rfl) rfl (none) ?_)); rintro r rfl; refine AL.n ?_; refine AL.ra ?_; refine AL.nil (AW.seq (AW.seq (AW.region ?_))); rw [← lstP_0 (p := putO f)]; refine AL.rm ?_; refine AL.r (rd_len_sl rfl el_26 rfl) ?_; refine AL.rm ?_; refine AL.nil (AW.block (AW.loopM (ι := Nat) [10, 19, 20, 21, 22, 23, 24, 25, 26, 27] (fun k => [(18, AI (k : Int)), (0, .sl (byA (lstP (putO f) b f l k)))]) [0] (fun k => []) (fun k => k ≤ l.length) (fun k => l.length - k) 0 (Nat.zero_le _) wk sk ?_))
  rintro k gs hJ; refine AW.nm ?_; refine AW.seq (AW.region (AL.r qb ?_)); refine AL.nil (AW.seq (AW.cd rfl (fun h19 => ?_) (fun h19 => ?_)))
  ·refine AW.skip (AW.seq (AW.block (AW.seq (AW.region (AL.r (rd_iaddr_sl rfl el_26 rfl rfl rfl (get_O (by omega)) rfl) ?_))))); refine AL.r (rd_loadN_ep rfl ag_48 rfl (Nat.le_of_ble_eq_true rfl) rfl) ?_; refine AL.op rfl (AOpB.op (op_alloc 0 rfl ze_48 rfl ?_)); refine AL.n ?_; refine AL.op rfl (op_store_ rfl rfl rfl rfl rfl sz_48 ?_); refine AL.b ?_; refine AL.nil (AW.region ?_); (iterate 3 refine AL.rm ?_); refine AL.r (qN ag_48) ?_; refine AL.op rfl (AOpB.op (op_callv (step k (by omega)) rfl rfl (by kernel_rfl) rfl (none) ?_)); rintro r rfl; refine AL.n ?_; refine AL.ra ?_; refine AL.nil (AW.region (AL.r (rd_arith_add rfl rfl rfl (by first | exact IntWalk.i64_in _ (by omega) | rfl)) ?_))
   refine AL.rm ?_; refine AL.nil ?_; refine ⟨k + 1, ?_, by first | omega | (simp only []; omega), ?_, ?_⟩
   ·show k + 1 ≤ l.length; omega
   ·exact wk
   ·exact sk
  ·refine AW.exit ?_; change AW _ _ _ _ _; refine AW.seq (AW.region (AL.rm ?_)); refine AL.ra ?_; refine AL.nil (AW.ret (r1t ?_)); obtain rfl : k = l.length := (by omega); rfl
end
end Go.Proofs.YtlapcfnmmpbeeaaGreat
