/- A schema as bytes, and got from a reader and from bytes, walked over abstract states. Conditions: fields of int64 numbers and short texts; fewer than 2^40 bytes. -/
import Derived.Test.YtfjnkhanndkpfaaSbP
import Derived.Test.YtfjnkhanndkpfaaFbR
namespace Go.Proofs.Ytfjnkhanndkpfaa
set_option linter.unusedSimpArgs false
set_option linter.unusedVariables false
set_option maxRecDepth 100000
set_option maxRecDepth 100000
open Go.RowKit

theorem pnum_no (f z : Int) (hf : i64R f) (hz : i64R z) (h : okF f = true) : AC Try.prog 100 [.sl (byA []), .sc (.int .i64 f), .sc (.int .i64 z)] (fun r => r = .o 5 1 (byA (putN f z))) := pnum_o [] f z (by simp) hf hz h
theorem fput_n (f : Int) (hf : i64R f) (h : okF f = true) (x : FldD) (hw : x.Wf) (hl : x.Light) : AC Try.prog 101 [.sl (byA []), .sc (.int .i64 f), x.av] (fun r => r = .s (.sl (byA (putF f x)))) := fput_c [] f x (by simp) hf h hw hl
theorem putL_row {f : Int} {l : List FldD} {k g T : Nat} (hk : k < l.length) : TK.mk g (.own T 1 (byA (putL' f l k ++ putF f l[k]))) = TK.mk g (.own T 1 (byA (putL' f l (k + 1)))) := by
  rw [putL'_s hk]
section
variable (f : Int) (hf : i64R f) (l : List FldD) (hn : l.length ≤ 40) (hw : ∀ x ∈ l, x.Wf) (hl : ∀ x ∈ l, x.Light)
include hf hn hw hl
set_option maxHeartbeats 1000000 in
theorem sput_c (b : List UInt8) (hb : b.length ≤ 1000000) (h : okF f = true) : AC Try.prog 55 [.sl (byA b), .sc (.int .i64 f), .sl (l.map FldD.cs)] (fun r => r = .s (.sl (byA (b ++ putL f l)))) := by
  have hbb := byA_len b
  refine AC.of' 36 6 Try.func55 rfl ?_
  change AW _ _ _ _ [TK.mk 0 .off, TK.mk 0 .off, TK.mk 0 .off, TK.mk 0 .off, TK.mk 0 .off, TK.mk 0 .off]
  refine AW.seq ?_
  refine AW.region ?_
  refine AL.ra ?_
  refine AL.nil ?_
  change AW _ _ _ _ _
  refine AW.seq ?_
  refine AW.region ?_
  refine AL.rm ?_
  refine AL.rm ?_
  refine AL.r (rd_len_sl rfl el_23 rfl) ?_
  refine AL.op rfl (AOpB.op (op_call (pnum_no f (l.length : Nat) hf ⟨by omega, by omega⟩ h) rfl (by kernel_rfl) rfl (some 0) ?_))
  rintro r rfl
  refine ⟨_, rfl, ?_⟩
  refine AL.n ?_
  refine AL.ra ?_
  refine AL.nil ?_
  change AW _ _ _ _ _
  refine AW.seq ?_
  refine AW.seq ?_
  refine AW.region ?_
  refine AL.rm ?_
  refine AL.r (rd_len_sl rfl el_23 rfl) ?_
  refine AL.rm ?_
  refine AL.nil ?_
  change AW _ _ _ _ _
  refine AW.block ?_
  refine AW.loopM (ι := Nat × Nat) [9, 18, 19, 20, 21, 22, 23, 24, 25, 26] (fun ⟨k, gL⟩ => [(17, AI (k : Int)), (7, .ow 0 gL)]) [1, 2] (fun ⟨k, gL⟩ => [(0, ⟨gL, .own 5 1 (byA (putL' f l k))⟩)]) (fun ⟨k, gL⟩ => k ≤ l.length) (fun ⟨k, gL⟩ => l.length - k) (0, 1) (Nat.zero_le _) (by simp only [anys, upds, offs, List.set_cons_zero, List.set_cons_succ]; repeat (first | exact Wk.nil | refine Wk.same ?_ | refine Wk.any ?_)) (by simp only [anys, upds, offs, List.set_cons_zero, List.set_cons_succ]; repeat (first | exact Sk.nil _ | refine Sk.same _ ?_ | refine Sk.scr _ (by decide) ?_ | refine Sk.eq _ (by rw [putL'_0]) ?_)) ?_
  rintro ⟨k, gL⟩ gs hJ
  refine AW.norm (by simp only [anys, upds, offs, List.set_cons_zero, List.set_cons_succ]; rfl) (by (try simp only [anys, upds, offs, List.set_cons_zero, List.set_cons_succ]); (try rfl)) ?_
  refine AW.seq ?_
  refine AW.region ?_
  refine AL.r (rd_bin rfl rfl rfl (fun _ => rfl)) ?_
  refine AL.nil ?_
  change AW _ _ _ _ _
  refine AW.seq ?_
  refine AW.cd rfl (fun h18 => ?_) (fun h18 => ?_)
  ·skip
   refine AW.skip ?_
   change AW _ _ _ _ _
   refine AW.seq ?_
   refine AW.block ?_
   refine AW.seq ?_
   refine AW.region ?_
   refine AL.r (rd_iaddr_sl rfl el_23 rfl rfl rfl (get_mapA (by omega)) rfl) ?_
   refine AL.r (rd_loadN_ep rfl ag_30 rfl (Nat.le_of_ble_eq_true rfl) rfl) ?_
   refine AL.op rfl (AOpB.op (op_alloc 1 rfl ze_30 rfl ?_))
   refine AL.n ?_
   refine AL.op rfl (op_store_ rfl rfl rfl rfl rfl sz_30 ?_)
   refine AL.n ?_
   refine AL.nil ?_
   change AW _ _ _ _ _
   refine AW.region ?_
   have l4 := putL'_len (f := f) hl k; have l5 := putF_len (f := f) (hl _ (List.getElem_mem (show k < l.length by omega)))
   refine AL.rm ?_
   refine AL.rm ?_
   refine AL.r (rd_loadN_bx rfl ag_30 rfl rfl (Nat.le_of_ble_eq_true rfl) rfl) ?_
   refine AL.op rfl (AOpB.op (op_call (fput_n f hf h (l[k]'(by omega)) (hw _ (List.getElem_mem _)) (hl _ (List.getElem_mem _))) rfl (by kernel_rfl) rfl (none) ?_))
   rintro r rfl
   refine AL.n ?_
   refine AL.op rfl (op_append rfl ap_83 rfl rfl (src_s rfl) (by simp only [byA_len]; omega) (by simp only [byA_len]; omega) ?_)
   refine AL.n ?_
   refine AL.ra ?_
   refine AL.nil ?_
   change AW _ _ _ _ _
   refine AW.region ?_
   refine AL.r (rd_arith_add rfl rfl rfl (by first | exact IntWalk.i64_in _ (by omega) | rfl)) ?_
   refine AL.rm ?_
   refine AL.nil ?_
   refine ⟨⟨k + 1, gL + 1⟩, ?_, by first | omega | (simp only []; omega), ?_, ?_⟩
   ·show k + 1 ≤ l.length; omega
   ·simp only [anys, upds, offs, List.set_cons_zero, List.set_cons_succ]; repeat (first | exact Wk.nil | refine Wk.same ?_ | refine Wk.any ?_)
   ·simp only [anys, upds, offs, List.set_cons_zero, List.set_cons_succ]; repeat (first | exact Sk.nil _ | refine Sk.same _ ?_ | refine Sk.scr _ (by decide) ?_ | refine Sk.eq _ (by first | rfl | exact putL_row (by omega)) ?_)
  ·skip
   refine AW.exit ?_
   change AW _ _ _ _ _
   refine AW.seq ?_
   refine AW.region ?_
   obtain rfl : k = l.length := (by omega)
   have l4 := putL'_len (f := f) hl l.length
   refine AL.rm ?_
   refine AL.r (rd_len_sl rfl el_83 rfl) ?_
   refine AL.rm ?_
   refine AL.r (rd_len_ow rfl el_83 rfl rfl) ?_
   refine AL.r (rd_arith_add rfl rfl rfl (by first | exact IntWalk.i64_in _ (by omega) | rfl)) ?_
   refine AL.op rfl (AOpB.op (op_make0 3 rfl ap_83 rfl rfl (n := b.length + (putL' f l l.length).length) (by omega) (by omega) (by omega) rfl ?_))
   refine AL.n ?_
   refine AL.ra ?_
   refine AL.nil ?_
   change AW _ _ _ _ _
   refine AW.seq ?_
   refine AW.region ?_
   refine AL.rm ?_
   refine AL.rm ?_
   refine AL.op rfl (op_append rfl ap_83 rfl rfl (src_s rfl) (by first | omega | (simp; omega) | simp) (by first | omega | (simp; omega) | simp) ?_)
   refine AL.n ?_
   refine AL.ra ?_
   refine AL.nil ?_
   change AW _ _ _ _ _
   refine AW.seq ?_
   refine AW.region ?_
   refine AL.rm ?_
   refine AL.rm ?_
   refine AL.op rfl (op_append rfl ap_83 rfl rfl (src_ow rfl rfl) (by simp only [byA_len, List.nil_append]; omega) (by simp only [byA_len, List.nil_append]; omega) ?_)
   refine AL.n ?_
   refine AL.ra ?_
   refine AL.nil ?_
   change AW _ _ _ _ _
   refine AW.ret ?_
   change ResA _ _ _ _ _
   refine res1 rfl (ResV.tmp rfl) (by first | rfl | exact setA_own rfl) ?_
   rw [List.nil_append, byA_app, putL'_n]
theorem sput_0 (b : List UInt8) (hb : b.length ≤ 1000000) (h : okF f = false) : AC Try.prog 55 [.sl (byA b), .sc (.int .i64 f), .sl (l.map FldD.cs)] (fun r => r = .s (.sl (byA b))) := by
  have hbb := byA_len b
  refine AC.of' 36 5 Try.func55 rfl ?_
  change AW _ _ _ _ [TK.mk 0 .off, TK.mk 0 .off, TK.mk 0 .off, TK.mk 0 .off, TK.mk 0 .off]
  refine AW.seq ?_
  refine AW.region ?_
  refine AL.ra ?_
  refine AL.nil ?_
  change AW _ _ _ _ _
  refine AW.seq ?_
  refine AW.region ?_
  refine AL.rm ?_
  refine AL.rm ?_
  refine AL.r (rd_len_sl rfl el_23 rfl) ?_
  refine AL.op rfl (AOpB.op (op_call (pnum_0 f hf h (l.length : Nat) ⟨by omega, by omega⟩) rfl (by kernel_rfl) rfl (none) ?_))
  rintro r rfl
  refine AL.n ?_
  refine AL.ra ?_
  refine AL.nil ?_
  change AW _ _ _ _ _
  refine AW.seq ?_
  refine AW.seq ?_
  refine AW.region ?_
  refine AL.rm ?_
  refine AL.r (rd_len_sl rfl el_23 rfl) ?_
  refine AL.rm ?_
  refine AL.nil ?_
  change AW _ _ _ _ _
  refine AW.block ?_
  refine AW.loopM (ι := Nat) [9, 18, 19, 20, 21, 22, 23, 24, 25, 26] (fun k => [(17, AI (k : Int)), (7, .sl (byA []))]) [0, 1] (fun k => []) (fun k => k ≤ l.length) (fun k => l.length - k) 0 (Nat.zero_le _) (by simp only [anys, upds, offs, List.set_cons_zero, List.set_cons_succ]; repeat (first | exact Wk.nil | refine Wk.same ?_ | refine Wk.any ?_)) (by simp only [anys, upds, offs, List.set_cons_zero, List.set_cons_succ]; repeat (first | exact Sk.nil _ | refine Sk.same _ ?_ | refine Sk.scr _ (by decide) ?_)) ?_
  rintro k gs hJ
  refine AW.norm (by simp only [anys, upds, offs, List.set_cons_zero, List.set_cons_succ]; rfl) (by (try simp only [anys, upds, offs, List.set_cons_zero, List.set_cons_succ]); (try rfl)) ?_
  refine AW.seq ?_
  refine AW.region ?_
  refine AL.r (rd_bin rfl rfl rfl (fun _ => rfl)) ?_
  refine AL.nil ?_
  change AW _ _ _ _ _
  refine AW.seq ?_
  refine AW.cd rfl (fun h18 => ?_) (fun h18 => ?_)
  ·skip
   refine AW.skip ?_
   change AW _ _ _ _ _
   refine AW.seq ?_
   refine AW.block ?_
   refine AW.seq ?_
   refine AW.region ?_
   refine AL.r (rd_iaddr_sl rfl el_23 rfl rfl rfl (get_mapA (by omega)) rfl) ?_
   refine AL.r (rd_loadN_ep rfl ag_30 rfl (Nat.le_of_ble_eq_true rfl) rfl) ?_
   refine AL.op rfl (AOpB.op (op_alloc 0 rfl ze_30 rfl ?_))
   refine AL.n ?_
   refine AL.op rfl (op_store_ rfl rfl rfl rfl rfl sz_30 ?_)
   refine AL.n ?_
   refine AL.nil ?_
   change AW _ _ _ _ _
   refine AW.region ?_
   refine AL.rm ?_
   refine AL.rm ?_
   refine AL.r (rd_loadN_bx rfl ag_30 rfl rfl (Nat.le_of_ble_eq_true rfl) rfl) ?_
   refine AL.op rfl (AOpB.op (op_call (fput_0 f hf h (l[k]'(by omega)) (hw _ (List.getElem_mem _)) (hl _ (List.getElem_mem _))) rfl (by kernel_rfl) rfl (none) ?_))
   rintro r rfl
   refine AL.n ?_
   refine AL.op rfl (AOpB.op (op_append_e rfl ap_83 rfl (src_s rfl) ?_))
   refine AL.n ?_
   refine AL.ra ?_
   refine AL.nil ?_
   change AW _ _ _ _ _
   refine AW.region ?_
   refine AL.r (rd_arith_add rfl rfl rfl (by first | exact IntWalk.i64_in _ (by omega) | rfl)) ?_
   refine AL.rm ?_
   refine AL.nil ?_
   refine ⟨k + 1, ?_, by first | omega | (simp only []; omega), ?_, ?_⟩
   ·show k + 1 ≤ l.length; omega
   ·simp only [anys, upds, offs, List.set_cons_zero, List.set_cons_succ]; repeat (first | exact Wk.nil | refine Wk.same ?_ | refine Wk.any ?_)
   ·simp only [anys, upds, offs, List.set_cons_zero, List.set_cons_succ]; repeat (first | exact Sk.nil _ | refine Sk.same _ ?_ | refine Sk.scr _ (by decide) ?_)
  ·skip
   refine AW.exit ?_
   change AW _ _ _ _ _
   refine AW.seq ?_
   refine AW.region ?_
   refine AL.rm ?_
   refine AL.r (rd_len_sl rfl el_83 rfl) ?_
   refine AL.rm ?_
   refine AL.r (rd_len_sl rfl el_83 rfl) ?_
   refine AL.r (rd_arith_add rfl rfl rfl (by first | exact IntWalk.i64_in _ (by omega) | rfl)) ?_
   refine AL.op rfl (AOpB.op (op_make0 2 rfl ap_83 rfl rfl rfl (by omega) (by omega) rfl ?_))
   refine AL.n ?_
   refine AL.ra ?_
   refine AL.nil ?_
   change AW _ _ _ _ _
   refine AW.seq ?_
   refine AW.region ?_
   refine AL.rm ?_
   refine AL.rm ?_
   refine AL.op rfl (op_append rfl ap_83 rfl rfl (src_s rfl) (by first | omega | (simp; omega) | simp) (by first | omega | (simp; omega) | simp) ?_)
   refine AL.n ?_
   refine AL.ra ?_
   refine AL.nil ?_
   change AW _ _ _ _ _
   refine AW.seq ?_
   refine AW.region ?_
   refine AL.rm ?_
   refine AL.rm ?_
   refine AL.op rfl (op_append rfl ap_83 rfl rfl (src_s rfl) (by simp [byA]; omega) (by simp [byA]; omega) ?_)
   refine AL.n ?_
   refine AL.ra ?_
   refine AL.nil ?_
   change AW _ _ _ _ _
   refine AW.ret ?_
   change ResA _ _ _ _ _
   refine res1 rfl (ResV.tmp rfl) (by first | rfl | exact setA_own rfl) ?_
   simp [byA]
set_option maxHeartbeats 1000000 in
theorem rput14_c (h : okF f = true) : AC Try.prog 57 [.sc (.int .i64 f), .sl (l.map FldD.cs)] (fun r => r = .s (.sl (byA (putL f l)))) := by
  refine AC.of' 24 2 Try.func57 rfl ?_
  change AW _ _ _ _ [TK.mk 0 .off, TK.mk 0 .off]
  refine AW.seq ?_
  refine AW.region ?_
  refine AL.ra ?_
  refine AL.nil ?_
  change AW _ _ _ _ _
  refine AW.seq ?_
  refine AW.region ?_
  refine AL.rm ?_
  refine AL.rm ?_
  refine AL.r (rd_len_sl rfl el_23 rfl) ?_
  refine AL.op rfl (AOpB.op (op_call (crput_n f hf h (l.length : Nat) ⟨by omega, by omega⟩) rfl (by kernel_rfl) rfl (some 0) ?_))
  rintro r rfl
  refine ⟨_, rfl, ?_⟩
  refine AL.n ?_
  refine AL.ra ?_
  refine AL.nil ?_
  change AW _ _ _ _ _
  refine AW.seq ?_
  refine AW.seq ?_
  refine AW.region ?_
  refine AL.ra ?_
  refine AL.nil ?_
  change AW _ _ _ _ _
  refine AW.block ?_
  refine AW.loopM (ι := Nat × Nat) [11, 12, 13, 14, 15, 16, 17, 18, 19, 20, 21, 22, 23, 24] (fun ⟨k, gL⟩ => [(6, AI (k : Int)), (5, .ow 0 gL)]) [1] (fun ⟨k, gL⟩ => [(0, ⟨gL, .own 5 1 (byA (putL' f l k))⟩)]) (fun ⟨k, gL⟩ => k ≤ l.length) (fun ⟨k, gL⟩ => l.length - k) (0, 1) (Nat.zero_le _) (by simp only [anys, upds, offs, List.set_cons_zero, List.set_cons_succ]; repeat (first | exact Wk.nil | refine Wk.same ?_ | refine Wk.any ?_)) (by simp only [anys, upds, offs, List.set_cons_zero, List.set_cons_succ]; repeat (first | exact Sk.nil _ | refine Sk.same _ ?_ | refine Sk.scr _ (by decide) ?_ | refine Sk.eq _ (by rw [putL'_0]) ?_)) ?_
  rintro ⟨k, gL⟩ gs hJ
  refine AW.norm (by simp only [anys, upds, offs, List.set_cons_zero, List.set_cons_succ]; rfl) (by (try simp only [anys, upds, offs, List.set_cons_zero, List.set_cons_succ]); (try rfl)) ?_
  refine AW.seq ?_
  refine AW.seq ?_
  refine AW.region ?_
  refine AL.rm ?_
  refine AL.rm ?_
  refine AL.r (rd_len_sl rfl el_23 rfl) ?_
  refine AL.r (rd_bin rfl rfl rfl (fun _ => rfl)) ?_
  refine AL.nil ?_
  change AW _ _ _ _ _
  refine AW.cd rfl (fun h14 => ?_) (fun h14 => ?_)
  ·skip
   refine AW.skip ?_
   change AW _ _ _ _ _
   refine AW.seq ?_
   refine AW.block ?_
   refine AW.region ?_
   have l4 := putL'_len (f := f) hl k; have l5 := putF_len (f := f) (hl _ (List.getElem_mem (show k < l.length by omega)))
   refine AL.rm ?_
   refine AL.rm ?_
   refine AL.rm ?_
   refine AL.rm ?_
   refine AL.r (rd_iaddr_sl rfl el_23 rfl rfl rfl (get_mapA (by omega)) rfl) ?_
   refine AL.r (rd_loadN_ep rfl ag_30 rfl (Nat.le_of_ble_eq_true rfl) rfl) ?_
   refine AL.op rfl (AOpB.op (op_call (rput13_c f hf h (l[k]'(by omega)) (hw _ (List.getElem_mem _)) (hl _ (List.getElem_mem _))) rfl (by kernel_rfl) rfl (none) ?_))
   rintro r rfl
   refine AL.n ?_
   refine AL.op rfl (op_append rfl ap_83 rfl rfl (src_s rfl) (by simp only [byA_len]; omega) (by simp only [byA_len]; omega) ?_)
   refine AL.n ?_
   refine AL.ra ?_
   refine AL.nil ?_
   change AW _ _ _ _ _
   refine AW.region ?_
   refine AL.rm ?_
   refine AL.r (rd_arith_add rfl rfl rfl (by first | exact IntWalk.i64_in _ (by omega) | rfl)) ?_
   refine AL.ra ?_
   refine AL.nil ?_
   refine ⟨⟨k + 1, gL + 1⟩, ?_, by first | omega | (simp only []; omega), ?_, ?_⟩
   ·show k + 1 ≤ l.length; omega
   ·simp only [anys, upds, offs, List.set_cons_zero, List.set_cons_succ]; repeat (first | exact Wk.nil | refine Wk.same ?_ | refine Wk.any ?_)
   ·simp only [anys, upds, offs, List.set_cons_zero, List.set_cons_succ]; repeat (first | exact Sk.nil _ | refine Sk.same _ ?_ | refine Sk.scr _ (by decide) ?_ | refine Sk.eq _ (by first | rfl | exact putL_row (by omega)) ?_)
  ·skip
   refine AW.exit ?_
   change AW _ _ _ _ _
   refine AW.seq ?_
   refine AW.region ?_
   refine AL.rm ?_
   refine AL.ra ?_
   refine AL.nil ?_
   change AW _ _ _ _ _
   refine AW.ret ?_
   change ResA _ _ _ _ _
   refine res1 rfl (ResV.tmp rfl) (by first | rfl | exact setA_own rfl) ?_
   obtain rfl : k = l.length := (by omega)
   rw [putL'_n]
end
theorem gotoA_ret {I : Nat → Nat → List AV → List TK → Prop} {n : Option Nat} {Q : APost} {t : List AV} {st : List TK} (h : Q .ret t st) : gotoA I n Q .ret t st := h
section
variable (g : Nat) (r : RdrD)
theorem rcount_s (h : r.Ok) : ACo Try.prog 94 [.bx 0 g 0, .sc (.int .i64 16)] (RdrT g r) (fun y os' => y = .sc (.int .i64 ((sn r : Nat) : Int)) ∧ os' = RdrT g (s0 r)) := by
  have hqn : ((sn r : Nat) : Int) = (countP r 16).1 := Int.toNat_of_nonneg (count_bd r (most := 16) (by omega)).1
  rw [hqn]
  exact rcount_c g r h 16
theorem s0_ok {r : RdrD} (h : r.Ok) : r.Of (s0 r) := h.count 16
theorem sn_le (r : RdrD) : sn r ≤ 16 := by
  have := count_bd r (most := 16) (by omega)
  unfold sn; omega
theorem flds_row {T g : Nat} {r : RdrD} {k : Nat} : TK.mk g (.own T 7 ((fldsP k r).1.map FldD.cs ++ [FldD.cs (getF (fldsP k r).2).1])) = TK.mk g (.own T 7 ((fldsP (k + 1) r).1.map FldD.cs)) := by
  rw [fldsP, List.map_append]; rfl
set_option maxHeartbeats 1000000 in
theorem sget_c (h : r.Ok) : ACo Try.prog 56 [.bx 0 g 0] (RdrT g r) (fun y os' => y = .sl ((gS r).map FldD.cs) ∧ ∃ r' : RdrD, r'.Ok ∧ os' = RdrT g r' ∧ badP r' = !okG r ∧ (okG r = true → r' = (fldsP (sn r) (s0 r)).2)) := by
  have hsn := sn_le r
  refine ACo.of' (st0 := [⟨g, .box 128 [.sl (byA r.b), .sc (.int .i64 r.f), .sc (.int .i64 r.at_), .sc (.bool r.bad)]⟩, TK.mk 0 .off, TK.mk 0 .off, TK.mk 0 .off]) 25 3 Try.func56 rfl 1 ?_
  refine AW.seq ?_
  refine AW.region ?_
  refine AL.ra ?_
  refine AL.nil ?_
  change AW _ _ _ _ _
  refine AW.scopeL [(0, ⟨Nat × Nat, [2, 5, 6, 7, 8, 9, 10, 11, 12, 13, 14, 15, 16, 17, 18, 19, 20, 21, 22, 23, 24, 25], fun ⟨k, gL⟩ => [(3, AI ((sn r : Nat) : Int)), (4, .ow 1 gL)], [2, 3], fun ⟨k, gL⟩ => [(1, ⟨gL, .own 30 7 ((fldsP k (s0 r)).1.map FldD.cs)⟩), (0, ⟨g, .box 128 [.sl (byA (fldsP k (s0 r)).2.b), .sc (.int .i64 (fldsP k (s0 r)).2.f), .sc (.int .i64 (fldsP k (s0 r)).2.at_), .sc (.bool (fldsP k (s0 r)).2.bad)]⟩)], fun ⟨k, gL⟩ => k ≤ sn r, fun ⟨k, gL⟩ => sn r - k⟩)] (.cons (by kernel_rfl) .nil) (.cons ?_ .nil) ?_
  ·rintro ⟨k, gL⟩ gs hJ H
   refine AW.norm (by simp only [anys, upds, offs, List.set_cons_zero, List.set_cons_succ]; rfl) (by (try simp only [anys, upds, offs, List.set_cons_zero, List.set_cons_succ]); (try rfl)) ?_
   dsimp only at hJ
   change AW _ _ _ _ _
   refine AW.seq ?_
   refine AW.seq ?_
   refine AW.region ?_
   have hto := fldsP_ok (s0_ok h).ok k; have hlen := hto.2
   refine AL.rm ?_
   refine AL.op rfl (calloR (rbad_c g (fldsP k (s0 r)).2) [0] ?_)
   rintro y os' ⟨rfl, rfl⟩
   refine AL.noR ?_
   refine AL.nil ?_
   change AW _ _ _ _ _
   refine AW.cd rfl (fun h10 => ?_) (fun h10 => ?_)
   ·skip
    refine AW.seq ?_
    refine AW.region ?_
    refine AL.ra ?_
    refine AL.nil ?_
    change AW _ _ _ _ _
    refine AW.ret ?_
    repeat with_reducible first | refine thenA_ret ?_ | refine inBlockA_ret ?_ | refine gotoA_ret ?_
    with_reducible first | refine retO_ret ?_ | refine retO_normal ?_
    refine reso1R rfl (ResV.tmp rfl) rfl ?_
    (have e := okG_bad (r := r) h10 (by omega)); rw [gS_no e]; exact ⟨rfl, _, hto.1.ok, rfl, by rw [e]; exact h10, fun hh => by rw [e] at hh; cases hh⟩
   ·skip
    refine AW.skip ?_
    change AW _ _ _ _ _
    refine AW.seq ?_
    refine AW.seq ?_
    refine AW.region ?_
    refine AL.rm ?_
    refine AL.r (rd_len_ow rfl el_23 rfl rfl) ?_
    refine AL.rm ?_
    refine AL.r (rd_bin rfl rfl rfl (fun _ => rfl)) ?_
    refine AL.nil ?_
    change AW _ _ _ _ _
    refine AW.cd rfl (fun h14 => ?_) (fun h14 => ?_)
    ·skip
     refine AW.seq ?_
     refine AW.region ?_
     refine AL.rm ?_
     refine AL.rm ?_
     refine AL.op rfl (calloR (fget_c g (fldsP k (s0 r)).2 hto.1.ok) [0] ?_)
     rintro y os' ⟨rfl, rfl⟩
     refine AL.noR ?_
     refine AL.op rfl (AOpB.op (bs_set rfl ap_23 ze_30 rfl rfl ?_))
     refine AL.no ?_
     refine AL.op rfl (op_append rfl ap_23 rfl rfl (src_s rfl) (by first | omega | (simp; omega) | simp) (by first | omega | (simp; omega) | simp) ?_)
     refine AL.no ?_
     refine AL.ra ?_
     refine AL.nil ?_
     change AW _ _ _ _ _
     refine AW.goto ?_
     repeat with_reducible first | refine thenA_goto ?_ | refine inBlockA_goto ?_
     refine gotoI (.head _) ⟨k + 1, gL + 1⟩ ?_ ?_ ?_ ?_
     ·dsimp only
      (show k + 1 ≤ sn r; omega)
     ·intro n hn; cases hn; dsimp only
      omega
     ·simp only [anys, upds, offs, List.set_cons_zero, List.set_cons_succ]; repeat (first | exact Wk.nil | refine Wk.same ?_ | refine Wk.any ?_)
     ·simp only [anys, upds, offs, List.set_cons_zero, List.set_cons_succ]; repeat (first | exact Sk.nil _ | refine Sk.same _ ?_ | refine Sk.scr _ (by decide) ?_ | refine Sk.eq _ (by first | rfl | exact flds_row) ?_)
    ·skip
     refine AW.skip ?_
     change AW _ _ _ _ _
     refine AW.seq ?_
     refine AW.seq ?_
     refine AW.region ?_
     obtain rfl : k = sn r := (by omega)
     refine AL.settle 4 rfl rfl (by first | rfl | exact cont_owM _ _ _ _) ?_
     refine AL.no ?_
     refine AL.rm ?_
     refine AL.op rfl (AOpB.op (op_call (sright_c (fldsP (sn r) (s0 r)).1) rfl (by kernel_rfl) rfl (none) ?_))
     rintro r rfl
     refine AL.no ?_
     refine AL.r (rd_un rfl rfl (fun _ => rfl)) ?_
     refine AL.nil ?_
     change AW _ _ _ _ _
     refine AW.cd rfl (fun h22 => ?_) (fun h22 => ?_)
     ·skip
      refine AW.seq ?_
      refine AW.region ?_
      refine AL.rm ?_
      refine AL.op rfl (calloR (rspoil_c g (fldsP (sn r) (s0 r)).2) [0] ?_)
      rintro y os' ⟨rfl, rfl⟩
      refine AL.noR ?_
      refine AL.nil ?_
      change AW _ _ _ _ _
      refine AW.seq ?_
      refine AW.region ?_
      refine AL.ra ?_
      refine AL.nil ?_
      change AW _ _ _ _ _
      refine AW.ret ?_
      repeat with_reducible first | refine thenA_ret ?_ | refine inBlockA_ret ?_ | refine gotoA_ret ?_
      with_reducible first | refine retO_ret ?_ | refine retO_normal ?_
      refine reso1R rfl (ResV.tmp rfl) rfl ?_
      (have e : okG r = false := by unfold okG; simp_all); rw [gS_no e]; exact ⟨rfl, _, hto.1.ok.spoil.ok, rfl, by rw [e]; rfl, fun hh => by rw [e] at hh; cases hh⟩
     ·skip
      refine AW.skip ?_
      change AW _ _ _ _ _
      refine AW.seq ?_
      refine AW.region ?_
      refine AL.rm ?_
      refine AL.ra ?_
      refine AL.nil ?_
      change AW _ _ _ _ _
      refine AW.ret ?_
      repeat with_reducible first | refine thenA_ret ?_ | refine inBlockA_ret ?_ | refine gotoA_ret ?_
      with_reducible first | refine retO_ret ?_ | refine retO_normal ?_
      refine reso1R rfl (ResV.tmp rfl) rfl ?_
      (have e : okG r = true := by unfold okG; simp_all); rw [gS, if_pos e]; exact ⟨rfl, _, hto.1.ok, rfl, by rw [e]; simp_all, fun _ => rfl⟩
  ·intro H
   refine AW.seq ?_
   refine AW.region ?_
   refine AL.rm ?_
   refine AL.op rfl (calloR (rcount_s g r h) [0] ?_)
   rintro y os' ⟨rfl, rfl⟩
   refine AL.noR ?_
   refine AL.ra ?_
   refine AL.nil ?_
   change AW _ _ _ _ _
   refine AW.seq ?_
   refine AW.region ?_
   refine AL.rm ?_
   refine AL.op rfl (AOpB.op (op_make0 1 rfl ap_23 rfl rfl (n := sn r) rfl (by omega) (by omega) rfl ?_))
   refine AL.no ?_
   refine AL.ra ?_
   refine AL.nil ?_
   change AW _ _ _ _ _
   refine AW.seq ?_
   refine AW.label ?_
   change AW _ _ _ _ _
   refine H _ _ (.head _) ⟨0, 1⟩ ?_ _ _ ?_ ?_
   ·dsimp only
    exact Nat.zero_le _
   ·simp only [anys, upds, offs, List.set_cons_zero, List.set_cons_succ]; repeat (first | exact Wk.nil | refine Wk.same ?_ | refine Wk.any ?_)
   ·simp only [anys, upds, offs, List.set_cons_zero, List.set_cons_succ]; repeat (first | exact Sk.nil _ | refine Sk.same _ ?_ | refine Sk.scr _ (by decide) ?_)
end
section
variable (b : List UInt8) (f at0 : Int) (hb : b.length ≤ 1099511627776) (h0 : 0 ≤ at0)
include hb h0
theorem z0_c : AC Try.prog 106 [.sl (byA b), .sc (.int .i64 at0), .sc (.int .i64 f), (askT 6 16).av] (fun r => r = .s (.tu [.ag [AI ((z0 b f at0).1).kind, AI ((z0 b f at0).1).n, AS ((z0 b f at0).1).s, AB ((z0 b f at0).1).f, AI ((z0 b f at0).1).t.rep, AI ((z0 b f at0).1).t.n, AI ((z0 b f at0).1).v.a, AI ((z0 b f at0).1).v.b, AI ((z0 b f at0).1).v.c, AI ((z0 b f at0).1).v.d, AI ((z0 b f at0).1).v.e, AI ((z0 b f at0).1).v.f, AI ((z0 b f at0).1).r.scope, AS ((z0 b f at0).1).r.group, AS ((z0 b f at0).1).r.name, AI ((z0 b f at0).1).most], AI (z0 b f at0).2.1, AB (z0 b f at0).2.2])) := rget8_c b f hb at0 h0 (askT 6 16) (by decide)
theorem zf_c (j : Nat) : AC Try.prog 107 [.sl (byA b), .sc (.int .i64 (fst14 b f at0 j).2.1), .sc (.int .i64 f)] (fun r => r = .s (.tu [.ag [AI ((get13 b f (fst14 b f at0 j).2.1).1).at_.scope, AS ((get13 b f (fst14 b f at0 j).2.1).1).at_.group, AS ((get13 b f (fst14 b f at0 j).2.1).1).at_.name, AI ((get13 b f (fst14 b f at0 j).2.1).1).kind, AS ((get13 b f (fst14 b f at0 j).2.1).1).dflt, .sl (csS ((get13 b f (fst14 b f at0 j).2.1).1).cases), AI ((get13 b f (fst14 b f at0 j).2.1).1).worth], AI (get13 b f (fst14 b f at0 j).2.1).2.1, AB (get13 b f (fst14 b f at0 j).2.1).2.2])) := rget13_c b f (fst14 b f at0 j).2.1 hb (fst14_nn h0 j)
end
theorem get13_small (b : List UInt8) (f a : Int) : (get13 b f a).1.cases.length ≤ 6 := by
  unfold get13
  split
  · rename_i h
    unfold ok13 at h
    simp only [Bool.and_eq_true] at h
    have h4 := rd8_count (m := 6) h.1.1.1.2
    show (cst b f a (yn b f a)).1.length ≤ 6
    rw [cst_len]
    have : ((yn b f a : Nat) : Int) = (y4 b f a).1.n := Int.toNat_of_nonneg h4.1
    have h5 : (y4 b f a).1.n ≤ 6 := h4.2
    omega
  · simp [zeroF]
theorem fst14_small (b : List UInt8) (f a : Int) : ∀ k, ∀ x ∈ (fst14 b f a k).1, x.cases.length ≤ 6
  | 0, x, hx => by simp [fst14] at hx
  | k + 1, x, hx => by
    rw [fst14, List.mem_append, List.mem_singleton] at hx
    rcases hx with hx | rfl
    · exact fst14_small b f a k x hx
    · exact get13_small _ _ _
theorem get14_smallS (b : List UInt8) (f a : Int) : smallS (get14 b f a).1 := by
  unfold get14
  split
  · rename_i h
    unfold ok14 at h
    simp only [Bool.and_eq_true] at h
    have h4 := rd8_count (m := 16) h.1.1
    have e : ((zn b f a : Nat) : Int) = (z0 b f a).1.n := Int.toNat_of_nonneg h4.1
    have h5 : (z0 b f a).1.n ≤ 16 := h4.2
    refine ⟨?_, fun x hx => ?_⟩
    · show (fst14 b f a (zn b f a)).1.length ≤ _
      rw [fst14_len]; omega
    · have := fst14_small b f a _ x hx
      omega
  · exact ⟨by simp, by simp⟩
section
variable (b : List UInt8) (f at0 : Int) (hb : b.length ≤ 1099511627776) (h0 : 0 ≤ at0)
theorem fst_row {T g j : Nat} : TK.mk g (.own T 7 ((fst14 b f at0 j).1.map FldD.cs ++ [FldD.cs (get13 b f (fst14 b f at0 j).2.1).1])) = TK.mk g (.own T 7 ((fst14 b f at0 (j + 1)).1.map FldD.cs)) := by
  rw [fst14, List.map_append]; rfl
include hb h0
set_option maxHeartbeats 4000000 in
theorem rget14_c : AC Try.prog 59 [.sl (byA b), .sc (.int .i64 at0), .sc (.int .i64 f)] (fun r => r = .s (.tu [.sl ((get14 b f at0).1.map FldD.cs), AI (get14 b f at0).2.1, AB (get14 b f at0).2.2])) := by
  refine AC.of' 52 5 Try.func59 rfl ?_
  change AW _ _ _ _ [TK.mk 0 .off, TK.mk 0 .off, TK.mk 0 .off, TK.mk 0 .off, TK.mk 0 .off]
  refine AW.seq ?_
  refine AW.region ?_
  refine AL.ra ?_
  refine AL.ra ?_
  refine AL.ra ?_
  refine AL.nil ?_
  change AW _ _ _ _ _
  refine AW.seq ?_
  refine AW.region ?_
  refine AL.rm ?_
  refine AL.rm ?_
  refine AL.rm ?_
  refine AL.r (rd_build rfl pl_79 ze_79 rfl rfl) ?_
  refine AL.op rfl (AOpB.op (op_call (z0_c b f at0 hb h0) rfl (by kernel_rfl) rfl (none) ?_))
  rintro r rfl
  refine AL.n ?_
  refine AL.rm ?_
  refine AL.r (rd_extract rfl rfl rfl) ?_
  refine AL.r (rd_extract rfl rfl rfl) ?_
  refine AL.r (rd_extract rfl rfl rfl) ?_
  refine AL.op rfl (AOpB.op (op_alloc 0 rfl ze_79 rfl ?_))
  refine AL.n ?_
  refine AL.op rfl (op_store_ rfl rfl rfl rfl rfl sz_79 ?_)
  refine AL.n ?_
  refine AL.ra ?_
  refine AL.ra ?_
  refine AL.nil ?_
  change AW _ _ _ _ _
  refine AW.seq ?_
  refine AW.seq ?_
  refine AW.region ?_
  refine AL.rm ?_
  refine AL.r (rd_un rfl rfl (fun _ => rfl)) ?_
  refine AL.nil ?_
  change AW _ _ _ _ _
  refine AW.cd rfl (fun h27 => ?_) (fun h27 => ?_)
  ·skip
   refine AW.seq ?_
   refine AW.region ?_
   refine AL.ra ?_
   refine AL.ra ?_
   refine AL.ra ?_
   refine AL.nil ?_
   change AW _ _ _ _ _
   refine AW.ret ?_
   change ResA _ _ _ _ _
   refine res3 rfl (ResV.tmp rfl) rfl (ResV.tmp rfl) rfl (ResV.tmp rfl) rfl ?_
   rw [get14_no (by unfold ok14; simp_all)]; rfl
  ·skip
   refine AW.skip ?_
   change AW _ _ _ _ _
   refine AW.seq ?_
   refine AW.region ?_
   refine AL.op rfl (AOpB.op (bs_own 1 rfl ap_23 ze_30 rfl rfl rfl ?_))
   refine AL.n ?_
   refine AL.ra ?_
   refine AL.nil ?_
   change AW _ _ _ _ _
   refine AW.seq ?_
   refine AW.seq ?_
   refine AW.region ?_
   have e4 : (z0 b f at0).2.2 = true := (by simp_all)
   have hyn : ((zn b f at0 : Nat) : Int) = (z0 b f at0).1.n := Int.toNat_of_nonneg (rd8_count e4).1
   have hy6 : (z0 b f at0).1.n ≤ 16 := (rd8_count e4).2
   refine AL.ra ?_
   refine AL.nil ?_
   change AW _ _ _ _ _
   refine AW.block ?_
   refine AW.loopM (ι := Nat × Nat) [6, 7, 8, 14, 15, 16, 29, 30, 31, 32, 33, 34, 35, 36, 37, 38, 39, 40, 41, 42, 43, 44, 45, 46, 47, 48, 49] (fun ⟨j, gL⟩ => [(13, AI (j : Int)), (10, AI (fst14 b f at0 j).2.1), (12, .ow 1 gL)]) [2, 3, 4] (fun ⟨j, gL⟩ => [(1, ⟨gL, .own 30 7 ((fst14 b f at0 j).1.map FldD.cs)⟩)]) (fun ⟨j, gL⟩ => j ≤ zn b f at0 ∧ (fst14 b f at0 j).2.2 = true) (fun ⟨j, gL⟩ => zn b f at0 - j) (0, 1) (⟨Nat.zero_le _, rfl⟩) (by simp only [anys, upds, offs, List.set_cons_zero, List.set_cons_succ]; repeat (first | exact Wk.nil | refine Wk.same ?_ | refine Wk.any ?_)) (by simp only [anys, upds, offs, List.set_cons_zero, List.set_cons_succ]; repeat (first | exact Sk.nil _ | refine Sk.same _ ?_ | refine Sk.scr _ (by decide) ?_ | refine Sk.eq _ (by rfl) ?_)) ?_
   rintro ⟨j, gL⟩ gs hJ
   refine AW.norm (by simp only [anys, upds, offs, List.set_cons_zero, List.set_cons_succ]; rfl) (by (try simp only [anys, upds, offs, List.set_cons_zero, List.set_cons_succ]); (try rfl)) ?_
   obtain ⟨hj, hjo⟩ := hJ
   refine AW.seq ?_
   refine AW.seq ?_
   refine AW.region ?_
   refine AL.rm ?_
   refine AL.r (rd_faddr_bx rfl fo_79_1 rfl rfl ⟨_, _, rfl⟩) ?_
   refine AL.r (rd_load_bx rfl ag_2 rfl rfl rfl) ?_
   refine AL.r (rd_bin rfl rfl rfl (fun _ => rfl)) ?_
   refine AL.nil ?_
   change AW _ _ _ _ _
   refine AW.cd rfl (fun h32 => ?_) (fun h32 => ?_)
   ·skip
    refine AW.skip ?_
    change AW _ _ _ _ _
    refine AW.seq ?_
    refine AW.block ?_
    refine AW.seq ?_
    refine AW.region ?_
    refine AL.rm ?_
    refine AL.rm ?_
    refine AL.rm ?_
    refine AL.op rfl (AOpB.op (op_call (zf_c b f at0 hb h0 j) rfl (by kernel_rfl) rfl (none) ?_))
    rintro r rfl
    refine AL.n ?_
    refine AL.rm ?_
    refine AL.r (rd_extract rfl rfl rfl) ?_
    refine AL.r (rd_extract rfl rfl rfl) ?_
    refine AL.r (rd_extract rfl rfl rfl) ?_
    refine AL.op rfl (AOpB.op (op_alloc 2 rfl ze_30 rfl ?_))
    refine AL.n ?_
    refine AL.op rfl (op_store_ rfl rfl rfl rfl rfl sz_30 ?_)
    refine AL.n ?_
    refine AL.ra ?_
    refine AL.ra ?_
    refine AL.nil ?_
    change AW _ _ _ _ _
    refine AW.seq ?_
    refine AW.seq ?_
    refine AW.region ?_
    refine AL.rm ?_
    refine AL.r (rd_un rfl rfl (fun _ => rfl)) ?_
    refine AL.nil ?_
    change AW _ _ _ _ _
    refine AW.cd rfl (fun h44 => ?_) (fun h44 => ?_)
    ·skip
     refine AW.seq ?_
     refine AW.region ?_
     refine AL.ra ?_
     refine AL.ra ?_
     refine AL.ra ?_
     refine AL.nil ?_
     change AW _ _ _ _ _
     refine AW.ret ?_
     change ResA _ _ _ _ _
     refine res3 rfl (ResV.tmp rfl) rfl (ResV.tmp rfl) rfl (ResV.tmp rfl) rfl ?_
     (have := fst14_false (b := b) (f := f) (a := at0) (j := j + 1) (by rw [fst14]; simp_all) (zn b f at0 - (j + 1))); rw [show j + 1 + (zn b f at0 - (j + 1)) = zn b f at0 by omega] at this; rw [get14_no (by unfold ok14; simp_all)]; rfl
    ·skip
     refine AW.skip ?_
     change AW _ _ _ _ _
     refine AW.seq ?_
     refine AW.region ?_
     refine AL.rm ?_
     refine AL.r (rd_loadN_bx rfl ag_30 rfl rfl (Nat.le_of_ble_eq_true rfl) rfl) ?_
     refine AL.op rfl (AOpB.op (bs_set rfl ap_23 ze_30 rfl rfl ?_))
     refine AL.n ?_
     refine AL.op rfl (op_append rfl ap_23 rfl rfl (src_s rfl) (by simp only [List.length_map, fst14_len, List.length_cons, List.length_nil]; omega) (by simp only [List.length_map, fst14_len, List.length_cons, List.length_nil]; omega) ?_)
     refine AL.n ?_
     refine AL.ra ?_
     refine AL.nil ?_
     change AW _ _ _ _ _
     refine AW.region ?_
     refine AL.rm ?_
     refine AL.ra ?_
     refine AL.nil ?_
     change AW _ _ _ _ _
     refine AW.region ?_
     refine AL.rm ?_
     refine AL.r (rd_arith_add rfl rfl rfl (by first | exact IntWalk.i64_in _ (by omega) | rfl)) ?_
     refine AL.ra ?_
     refine AL.nil ?_
     refine ⟨⟨j + 1, gL + 1⟩, ?_, by first | omega | (simp only []; omega), ?_, ?_⟩
     ·exact ⟨by omega, by rw [fst14, hjo]; simp_all⟩
     ·simp only [anys, upds, offs, List.set_cons_zero, List.set_cons_succ]; repeat (first | exact Wk.nil | refine Wk.same ?_ | refine Wk.any ?_)
     ·simp only [anys, upds, offs, List.set_cons_zero, List.set_cons_succ]; repeat (first | exact Sk.nil _ | refine Sk.same _ ?_ | refine Sk.scr _ (by decide) ?_ | refine Sk.eq _ (by first | rfl | exact fst_row b f at0) ?_)
   ·skip
    refine AW.exit ?_
    change AW _ _ _ _ _
    refine AW.seq ?_
    refine AW.seq ?_
    refine AW.region ?_
    obtain rfl : j = zn b f at0 := (by omega)
    refine AL.settle 12 rfl rfl (by first | rfl | exact cont_owM _ _ _ _) ?_
    refine AL.no ?_
    refine AL.rm ?_
    refine AL.op rfl (AOpB.op (op_call (rright14 (fst14 b f at0 (zn b f at0)).1 ⟨by rw [fst14_len]; omega, fun x hx => by have := fst14_small b f at0 _ x hx; omega⟩) rfl (by kernel_rfl) rfl (none) ?_))
    rintro r rfl
    refine AL.n ?_
    refine AL.r (rd_un rfl rfl (fun _ => rfl)) ?_
    refine AL.nil ?_
    change AW _ _ _ _ _
    refine AW.cd rfl (fun h52 => ?_) (fun h52 => ?_)
    ·skip
     refine AW.seq ?_
     refine AW.region ?_
     refine AL.ra ?_
     refine AL.ra ?_
     refine AL.ra ?_
     refine AL.nil ?_
     change AW _ _ _ _ _
     refine AW.ret ?_
     change ResA _ _ _ _ _
     refine res3 rfl (ResV.tmp rfl) rfl (ResV.tmp rfl) rfl (ResV.tmp rfl) rfl ?_
     rw [get14_no (by unfold ok14; simp_all)]; rfl
    ·skip
     refine AW.skip ?_
     change AW _ _ _ _ _
     refine AW.seq ?_
     refine AW.region ?_
     refine AL.rm ?_
     refine AL.rm ?_
     refine AL.ra ?_
     refine AL.ra ?_
     refine AL.ra ?_
     refine AL.nil ?_
     change AW _ _ _ _ _
     refine AW.ret ?_
     change ResA _ _ _ _ _
     refine res3 rfl (ResV.tmp rfl) rfl (ResV.tmp rfl) rfl (ResV.tmp rfl) rfl ?_
     rw [get14, if_pos (by unfold ok14; simp_all)]
end
end Go.Proofs.Ytfjnkhanndkpfaa
