/- An op as bytes: the reference, walked over abstract states. Conditions: a format that is one, int64 numbers, short texts. -/
import Derived.Test.YtfjnkhanndkpfaaThB
import Derived.Test.YtfjnkhanndkpfaaOgB
namespace Go.Proofs.Ytfjnkhanndkpfaa
set_option linter.unusedSimpArgs false
set_option linter.unusedVariables false
set_option maxRecDepth 100000
set_option maxRecDepth 100000
open Go.RowKit

section
variable (f : Int) (hf : i64R f) (h : okF f = true)
include hf h
theorem rtext20_c (s : Bytes) (hs : s.length ≤ 1000000) : AC Try.prog 130 [.sc (.int .i64 f), AS s] (fun r => r = .s (.sl (byA (textP f s)))) := by
  refine AC.of' 7 0 Try.func130 rfl ?_
  change AW _ _ _ _ []
  refine AW.seq ?_
  refine AW.region ?_
  refine AL.ra ?_
  refine AL.nil ?_
  change AW _ _ _ _ _
  refine AW.seq ?_
  refine AW.region ?_
  refine AL.rm ?_
  refine AL.rm ?_
  refine AL.r (rd_build rfl pl_79 ze_79 rfl rfl) ?_
  refine AL.op rfl (AOpB.op (op_call (r8text_c f hf h s hs) rfl (by kernel_rfl) rfl (none) ?_))
  rintro r rfl
  refine AL.n ?_
  refine AL.ra ?_
  refine AL.nil ?_
  change AW _ _ _ _ _
  refine AW.ret ?_
  change ResA _ _ _ _ _
  refine res1 rfl (ResV.tmp rfl) rfl ?_
  rfl
set_option maxHeartbeats 1000000 in
theorem roput_c (o : OpD) (hw : o.Wf) (hl : o.Light) : AC Try.prog 71 [.sc (.int .i64 f), o.av] (fun r => r = .s (.sl (byA (putO f o)))) := by
  have c1 := hl.cart; have c2 := hl.item; have c3 := hl.group; have c4 := hl.name; have c5 := hl.text; have c6 := hl.drops
  have a1 := tagP_len f o.id; have a2 := tagP_len f o.schema; have a3 := putN_len f o.time; have a4 := textP_len f o.cart; have a5 := putN_len f o.kind; have a6 := textP_len f o.item
  have a7 := refP_len f o.at_; have a8 := putN_len f o.delta; have a10 := textP_len f o.text; have a11 := putN_len f (o.drops.length : Nat)
  have a9 : (flagB o.has).length = 1 := rfl
  have h0 := po12_len (f := f) hl 0
  have l12 : po12 f o 0 = po11 f o := by unfold po12; simp
  change AC _ _ [.sc (.int .i64 f), .ag [AI o.id.rep, AI o.id.n, AI o.schema.rep, AI o.schema.n, AI o.time, AS o.cart, AI o.kind, AS o.item, AI o.at_.scope, AS o.at_.group, AS o.at_.name, AI o.delta, AB o.has, AS o.text, .sl (o.drops.map TagD.cs)]] _
  refine AC.of' 92 21 Try.func71 rfl ?_
  change AW _ _ _ _ [TK.mk 0 .off, TK.mk 0 .off, TK.mk 0 .off, TK.mk 0 .off, TK.mk 0 .off, TK.mk 0 .off, TK.mk 0 .off, TK.mk 0 .off, TK.mk 0 .off, TK.mk 0 .off, TK.mk 0 .off, TK.mk 0 .off, TK.mk 0 .off, TK.mk 0 .off, TK.mk 0 .off, TK.mk 0 .off, TK.mk 0 .off, TK.mk 0 .off, TK.mk 0 .off, TK.mk 0 .off, TK.mk 0 .off]
  refine AW.seq ?_
  refine AW.region ?_
  refine AL.op rfl (AOpB.op (op_box 0 rfl rfl rfl rfl rfl ?_))
  refine AL.n ?_
  refine AL.ra ?_
  refine AL.nil ?_
  change AW _ _ _ _ _
  refine AW.seq ?_
  refine AW.region ?_
  refine AL.rm ?_
  refine AL.r (rd_faddr_bx rfl fo_47_0 rfl rfl ⟨_, _, rfl⟩) ?_
  refine AL.r (rd_loadN_bx rfl ag_44 rfl rfl (Nat.le_of_ble_eq_true rfl) rfl) ?_
  refine AL.r (rd_build rfl pl_79 ze_79 rfl rfl) ?_
  refine AL.op rfl (AOpB.op (op_call (r8tag_c f hf h o.id hw.id1 hw.id2) rfl (by kernel_rfl) rfl (some 1) ?_))
  rintro r rfl
  refine ⟨_, rfl, ?_⟩
  refine AL.n ?_
  refine AL.ra ?_
  refine AL.nil ?_
  change AW _ _ _ _ _
  refine AW.seq ?_
  refine AW.region ?_
  refine AL.rm ?_
  refine AL.rm ?_
  refine AL.r (rd_faddr_bx rfl fo_47_1 rfl rfl ⟨_, _, rfl⟩) ?_
  refine AL.r (rd_loadN_bx rfl ag_44 rfl rfl (Nat.le_of_ble_eq_true rfl) rfl) ?_
  refine AL.r (rd_build rfl pl_79 ze_79 rfl rfl) ?_
  refine AL.op rfl (AOpB.op (op_call (r8tag_c f hf h o.schema hw.sc1 hw.sc2) rfl (by kernel_rfl) rfl (some 2) ?_))
  rintro r rfl
  refine ⟨_, rfl, ?_⟩
  refine AL.n ?_
  refine AL.op rfl (op_append rfl ap_83 rfl rfl (src_ow rfl rfl) (by simp only [byA_len, List.length_append]; omega) (by simp only [byA_len, List.length_append]; omega) ?_)
  refine AL.n ?_
  refine AL.ra ?_
  refine AL.nil ?_
  change AW _ _ _ _ _
  refine AW.seq ?_
  refine AW.region ?_
  refine AL.rm ?_
  refine AL.rm ?_
  refine AL.r (rd_faddr_bx rfl fo_47_2 rfl rfl ⟨_, _, rfl⟩) ?_
  refine AL.r (rd_load_bx rfl ag_2 rfl rfl rfl) ?_
  refine AL.op rfl (AOpB.op (op_call (crput_n f hf h o.time hw.time) rfl (by kernel_rfl) rfl (some 4) ?_))
  rintro r rfl
  refine ⟨_, rfl, ?_⟩
  refine AL.n ?_
  refine AL.op rfl (op_append rfl ap_83 rfl rfl (src_ow rfl rfl) (by simp only [byA_len, List.length_append]; omega) (by simp only [byA_len, List.length_append]; omega) ?_)
  refine AL.n ?_
  refine AL.ra ?_
  refine AL.nil ?_
  change AW _ _ _ _ _
  refine AW.seq ?_
  refine AW.region ?_
  refine AL.rm ?_
  refine AL.rm ?_
  refine AL.r (rd_faddr_bx rfl fo_47_3 rfl rfl ⟨_, _, rfl⟩) ?_
  refine AL.r (rd_load_bx rfl ag_9 rfl rfl rfl) ?_
  refine AL.op rfl (AOpB.op (op_call (rtext20_c f hf h o.cart (by omega)) rfl (by kernel_rfl) rfl (none) ?_))
  rintro r rfl
  refine AL.n ?_
  refine AL.op rfl (op_append rfl ap_83 rfl rfl (src_s rfl) (by simp only [byA_len, List.length_append]; omega) (by simp only [byA_len, List.length_append]; omega) ?_)
  refine AL.n ?_
  refine AL.ra ?_
  refine AL.nil ?_
  change AW _ _ _ _ _
  refine AW.seq ?_
  refine AW.region ?_
  refine AL.rm ?_
  refine AL.rm ?_
  refine AL.r (rd_faddr_bx rfl fo_47_4 rfl rfl ⟨_, _, rfl⟩) ?_
  refine AL.r (rd_load_bx rfl ag_3 rfl rfl rfl) ?_
  refine AL.op rfl (AOpB.op (op_call (crput_n f hf h o.kind hw.kind) rfl (by kernel_rfl) rfl (some 7) ?_))
  rintro r rfl
  refine ⟨_, rfl, ?_⟩
  refine AL.n ?_
  refine AL.op rfl (op_append rfl ap_83 rfl rfl (src_ow rfl rfl) (by simp only [byA_len, List.length_append]; omega) (by simp only [byA_len, List.length_append]; omega) ?_)
  refine AL.n ?_
  refine AL.ra ?_
  refine AL.nil ?_
  change AW _ _ _ _ _
  refine AW.seq ?_
  refine AW.region ?_
  refine AL.rm ?_
  refine AL.rm ?_
  refine AL.r (rd_faddr_bx rfl fo_47_5 rfl rfl ⟨_, _, rfl⟩) ?_
  refine AL.r (rd_load_bx rfl ag_9 rfl rfl rfl) ?_
  refine AL.op rfl (AOpB.op (op_call (rtext20_c f hf h o.item (by omega)) rfl (by kernel_rfl) rfl (none) ?_))
  rintro r rfl
  refine AL.n ?_
  refine AL.op rfl (op_append rfl ap_83 rfl rfl (src_s rfl) (by simp only [byA_len, List.length_append]; omega) (by simp only [byA_len, List.length_append]; omega) ?_)
  refine AL.n ?_
  refine AL.ra ?_
  refine AL.nil ?_
  change AW _ _ _ _ _
  refine AW.seq ?_
  refine AW.region ?_
  refine AL.rm ?_
  refine AL.rm ?_
  refine AL.r (rd_faddr_bx rfl fo_47_6 rfl rfl ⟨_, _, rfl⟩) ?_
  refine AL.r (rd_loadN_bx rfl ag_27 rfl rfl (Nat.le_of_ble_eq_true rfl) rfl) ?_
  refine AL.r (rd_build rfl pl_79 ze_79 rfl rfl) ?_
  refine AL.op rfl (AOpB.op (op_call (r8ref_c f hf h o.at_ hw.scope (by omega) (by omega)) rfl (by kernel_rfl) rfl (some 10) ?_))
  rintro r rfl
  refine ⟨_, rfl, ?_⟩
  refine AL.n ?_
  refine AL.op rfl (op_append rfl ap_83 rfl rfl (src_ow rfl rfl) (by simp only [byA_len, List.length_append]; omega) (by simp only [byA_len, List.length_append]; omega) ?_)
  refine AL.n ?_
  refine AL.ra ?_
  refine AL.nil ?_
  change AW _ _ _ _ _
  refine AW.seq ?_
  refine AW.region ?_
  refine AL.rm ?_
  refine AL.rm ?_
  refine AL.r (rd_faddr_bx rfl fo_47_7 rfl rfl ⟨_, _, rfl⟩) ?_
  refine AL.r (rd_load_bx rfl ag_2 rfl rfl rfl) ?_
  refine AL.op rfl (AOpB.op (op_call (crput_n f hf h o.delta hw.delta) rfl (by kernel_rfl) rfl (some 12) ?_))
  rintro r rfl
  refine ⟨_, rfl, ?_⟩
  refine AL.n ?_
  refine AL.op rfl (op_append rfl ap_83 rfl rfl (src_ow rfl rfl) (by simp only [byA_len, List.length_append]; omega) (by simp only [byA_len, List.length_append]; omega) ?_)
  refine AL.n ?_
  refine AL.ra ?_
  refine AL.nil ?_
  change AW _ _ _ _ _
  refine AW.seq ?_
  refine AW.region ?_
  refine AL.rm ?_
  refine AL.rm ?_
  refine AL.r (rd_faddr_bx rfl fo_47_8 rfl rfl ⟨_, _, rfl⟩) ?_
  refine AL.r (rd_load_bx rfl ag_4 rfl rfl rfl) ?_
  refine AL.r (rd_build rfl pl_79 ze_79 rfl rfl) ?_
  refine AL.op rfl (AOpB.op (op_call (r8flag_c f hf h o.has) rfl (by kernel_rfl) rfl (some 14) ?_))
  rintro r rfl
  refine ⟨_, rfl, ?_⟩
  refine AL.n ?_
  refine AL.op rfl (op_append rfl ap_83 rfl rfl (src_ow rfl rfl) (by simp only [byA_len, List.length_append]; omega) (by simp only [byA_len, List.length_append]; omega) ?_)
  refine AL.n ?_
  refine AL.ra ?_
  refine AL.nil ?_
  change AW _ _ _ _ _
  refine AW.seq ?_
  refine AW.region ?_
  refine AL.rm ?_
  refine AL.rm ?_
  refine AL.r (rd_faddr_bx rfl fo_47_9 rfl rfl ⟨_, _, rfl⟩) ?_
  refine AL.r (rd_load_bx rfl ag_9 rfl rfl rfl) ?_
  refine AL.op rfl (AOpB.op (op_call (rtext20_c f hf h o.text (by omega)) rfl (by kernel_rfl) rfl (none) ?_))
  rintro r rfl
  refine AL.n ?_
  refine AL.op rfl (op_append rfl ap_83 rfl rfl (src_s rfl) (by simp only [byA_len, List.length_append]; omega) (by simp only [byA_len, List.length_append]; omega) ?_)
  refine AL.n ?_
  refine AL.ra ?_
  refine AL.nil ?_
  change AW _ _ _ _ _
  refine AW.seq ?_
  refine AW.region ?_
  refine AL.rm ?_
  refine AL.rm ?_
  refine AL.r (rd_faddr_bx rfl fo_47_10 rfl rfl ⟨_, _, rfl⟩) ?_
  refine AL.r (rd_load_bx rfl ag_45 rfl rfl rfl) ?_
  refine AL.r (rd_len_sl rfl el_45 rfl) ?_
  refine AL.op rfl (AOpB.op (op_call (crput_n f hf h (o.drops.length : Nat) ⟨by omega, by omega⟩) rfl (by kernel_rfl) rfl (some 17) ?_))
  rintro r rfl
  refine ⟨_, rfl, ?_⟩
  refine AL.n ?_
  refine AL.op rfl (op_append rfl ap_83 rfl rfl (src_ow rfl rfl) (by simp only [byA_len, List.length_append]; omega) (by simp only [byA_len, List.length_append]; omega) ?_)
  refine AL.n ?_
  refine AL.ra ?_
  refine AL.nil ?_
  change AW _ _ _ _ _
  refine AW.seq ?_
  refine AW.seq ?_
  refine AW.region ?_
  refine AL.ra ?_
  refine AL.nil ?_
  change AW _ _ _ _ _
  refine AW.block ?_
  refine AW.loopM (ι := Nat × Nat) [76, 77, 78, 79, 80, 81, 82, 83, 84, 85, 86, 87, 88, 89, 90, 91, 92] (fun ⟨k, gL⟩ => [(6, AI (k : Int)), (5, .ow 1 gL)]) [19, 20] (fun ⟨k, gL⟩ => [(1, ⟨gL, .own 5 1 (byA (po12 f o k))⟩)]) (fun ⟨k, gL⟩ => k ≤ o.drops.length) (fun ⟨k, gL⟩ => o.drops.length - k) (0, 11) (Nat.zero_le _) (by simp only [anys, upds, offs, List.set_cons_zero, List.set_cons_succ]; repeat (first | exact Wk.nil | refine Wk.same ?_ | refine Wk.any ?_)) (by simp only [anys, upds, offs, List.set_cons_zero, List.set_cons_succ]; repeat (first | exact Sk.nil _ | refine Sk.same _ ?_ | refine Sk.scr _ (by decide) ?_ | refine Sk.eq _ (by rw [l12]; rfl) ?_)) ?_
  rintro ⟨k, gL⟩ gs hJ
  refine AW.norm (by simp only [anys, upds, offs, List.set_cons_zero, List.set_cons_succ]; rfl) (by (try simp only [anys, upds, offs, List.set_cons_zero, List.set_cons_succ]); (try rfl)) ?_
  refine AW.seq ?_
  refine AW.seq ?_
  refine AW.region ?_
  refine AL.rm ?_
  refine AL.r (rd_faddr_bx rfl fo_47_10 rfl rfl ⟨_, _, rfl⟩) ?_
  refine AL.r (rd_load_bx rfl ag_45 rfl rfl rfl) ?_
  refine AL.r (rd_len_sl rfl el_45 rfl) ?_
  refine AL.r (rd_bin rfl rfl rfl (fun _ => rfl)) ?_
  refine AL.nil ?_
  change AW _ _ _ _ _
  refine AW.cd rfl (fun h80 => ?_) (fun h80 => ?_)
  ·skip
   refine AW.skip ?_
   change AW _ _ _ _ _
   refine AW.seq ?_
   refine AW.block ?_
   refine AW.region ?_
   have l3 := tagP_len f (o.drops[k]'(by omega))
   have l4 := po12_len (f := f) hl k
   refine AL.rm ?_
   refine AL.rm ?_
   refine AL.r (rd_faddr_bx rfl fo_47_10 rfl rfl ⟨_, _, rfl⟩) ?_
   refine AL.r (rd_load_bx rfl ag_45 rfl rfl rfl) ?_
   refine AL.rm ?_
   refine AL.r (rd_iaddr_sl rfl el_45 rfl rfl rfl (get_mapA (by omega)) rfl) ?_
   refine AL.r (rd_loadN_ep rfl ag_44 rfl (Nat.le_of_ble_eq_true rfl) rfl) ?_
   refine AL.r (rd_build rfl pl_79 ze_79 rfl rfl) ?_
   refine AL.op rfl (AOpB.op (op_call (r8tag_c f hf h (o.drops[k]'(by omega)) (hw.drops _ (List.getElem_mem _)).1 (hw.drops _ (List.getElem_mem _)).2) rfl (by kernel_rfl) rfl (some 19) ?_))
   rintro r rfl
   refine ⟨_, rfl, ?_⟩
   refine AL.n ?_
   refine AL.op rfl (op_append rfl ap_83 rfl rfl (src_ow rfl rfl) (by simp only [byA_len, List.length_append]; omega) (by simp only [byA_len, List.length_append]; omega) ?_)
   refine AL.n ?_
   refine AL.ra ?_
   refine AL.nil ?_
   change AW _ _ _ _ _
   refine AW.region ?_
   refine AL.rm ?_
   refine AL.r (rd_arith_add rfl rfl rfl (by first | exact IntWalk.i64_in _ (by omega) | rfl)) ?_
   refine AL.ra ?_
   refine AL.nil ?_
   refine ⟨⟨k + 1, gL + 1⟩, ?_, by first | omega | (simp only []; omega), ?_, ?_⟩
   ·show k + 1 ≤ o.drops.length; omega
   ·simp only [anys, upds, offs, List.set_cons_zero, List.set_cons_succ]; repeat (first | exact Wk.nil | refine Wk.same ?_ | refine Wk.any ?_)
   ·simp only [anys, upds, offs, List.set_cons_zero, List.set_cons_succ]; repeat (first | exact Sk.nil _ | refine Sk.same _ ?_ | refine Sk.scr _ (by decide) ?_ | refine Sk.eq _ (by first | rfl | exact po12_row (by omega)) ?_)
  ·skip
   refine AW.exit ?_
   change AW _ _ _ _ _
   refine AW.seq ?_
   refine AW.region ?_
   refine AL.rm ?_
   refine AL.ra ?_
   refine AL.nil ?_
   change AW _ _ _ _ _
   refine AW.ret ?_
   change ResA _ _ _ _ _
   refine res1 rfl (ResV.tmp rfl) (by first | rfl | exact setA_own rfl) ?_
   obtain rfl : k = o.drops.length := (by omega)
   rfl
end
end Go.Proofs.Ytfjnkhanndkpfaa
