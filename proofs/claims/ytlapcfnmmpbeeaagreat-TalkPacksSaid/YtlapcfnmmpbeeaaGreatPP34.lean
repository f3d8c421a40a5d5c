/- Texts of the proof of talkPacks_holds, put together by a program: PnB ThC ThD. -/
import Derived.Test.YtlapcfnmmpbeeaaGreatPP33
set_option linter.unusedSimpArgs false
set_option linter.unusedVariables false
namespace Go.Proofs.YtlapcfnmmpbeeaaGreat
set_option maxRecDepth 100000
open Go.RowKit
def askT (k m : Int) : ThingD := ⟨k, 0, [], false, ⟨0, 0⟩, vec0, ⟨0, [], []⟩, m⟩
theorem badn {r : RdrD} (h : badP r = true) : badP (numP r).2 = true := by rw [bad_num h]; exact h
theorem badt {r : RdrD} {m : Int} (hm : 0 ≤ m) (h : badP r = true) : badP (rtextP r m).2 = true := by rw [bad_text h hm]; exact h
structure RdG (b : List UInt8) (f : Int) (r : RdrD) (a : Int) : Prop where
  b : r.b = b
  ff : r.f = f
  at_ : r.at_ = a
  bad : r.bad = false
section
variable {b : List UInt8} {f : Int} (hf : okF f = true) {r : RdrD} {a : Int}
include hf
theorem RdG.nb (h : RdG b f r a) : badP r = false := by unfold badP; rw [h.bad, h.ff, hf]; rfl
theorem rd_num (h : RdG b f r a) : ((getN b a f).2.2 = 0 → (numP r).1 = (getN b a f).1 ∧ RdG b f (numP r).2 (getN b a f).2.1) ∧ (¬ (getN b a f).2.2 = 0 → (numP r).1 = 0 ∧ badP (numP r).2 = true) := by
  have hb := RdG.nb hf h
  unfold numP
  rw [hb, if_neg (by decide), h.b, h.ff, h.at_]
  refine ⟨fun h1 => ?_, fun h1 => ?_⟩
  · rw [if_pos h1]
    exact ⟨rfl, ⟨rfl, rfl, rfl, h.bad⟩⟩
  · rw [if_neg h1]
    exact ⟨rfl, rfl⟩
theorem rd_tag (h : RdG b f r a) : ((rd8 b a f (askT 3 0)).2.2 = true → (rtagP r).1 = (rd8 b a f (askT 3 0)).1.t ∧ RdG b f (rtagP r).2 (rd8 b a f (askT 3 0)).2.1) ∧ ((rd8 b a f (askT 3 0)).2.2 = false → badP (rtagP r).2 = true) := by
  obtain ⟨h1, h2⟩ := rd_num hf h
  unfold rd8
  rw [if_neg (by simp [askT]), if_neg (by simp [askT]), if_neg (by simp [askT]), if_pos (by rfl)]
  by_cases hg : (getN b a f).2.2 = 0
  · obtain ⟨h3, h4⟩ := h1 hg
    obtain ⟨k1, k2⟩ := rd_num hf h4
    by_cases hg2 : (getN b (getN b a f).2.1 f).2.2 = 0
    · obtain ⟨k3, k4⟩ := k1 hg2
      rw [if_neg (fun hh => hh.elim (fun h => h hg) (fun h => h hg2))]
      refine ⟨fun _ => ?_, fun h => (by cases h)⟩
      unfold rtagP
      rw [RdG.nb hf k4, if_neg (by decide), h3, k3]
      exact ⟨rfl, k4⟩
    · obtain ⟨k3, k4⟩ := k2 hg2
      rw [if_pos (.inr hg2)]
      refine ⟨fun h => (by cases h), fun _ => ?_⟩
      unfold rtagP
      rw [if_pos k4]; exact k4
  · obtain ⟨h3, h4⟩ := h2 hg
    rw [if_pos (.inl hg)]
    refine ⟨fun h => (by cases h), fun _ => ?_⟩
    unfold rtagP
    rw [bad_num h4]
    simp only []
    rw [if_pos h4]; exact h4
end
set_option maxRecDepth 100000
section
variable (f : Int) (hf : i64R f) (h : okF f = true)
include hf h
theorem rtext20_c (s : Bytes) (hs : s.length ≤ 1000000) : AC Tryz.prog 144 [.sc (.int .i64 f), AS s] (fun r => r = .s (.sl (byA (textP f s)))) := by
  refine AC.of' 7 0 Tryz.func144 rfl ?_; change AW _ _ _ _ []; refine AW.seq (AW.region (AL.ra ?_)); refine AL.nil (AW.seq (AW.region ?_)); (iterate 2 refine AL.rm ?_); refine AL.r (rd_build rfl pl_133 ze_133 rfl rfl) ?_; refine AL.op rfl (AOpB.op (op_call (r8text_c f hf h s hs) rfl (by kernel_rfl) rfl (none) ?_)); rintro r rfl; refine AL.n ?_; refine AL.ra ?_; refine AL.nil (AW.ret (r1t ?_)); rfl
set_option maxHeartbeats 1000000 in
theorem roput_c (o : OpD) (hw : o.Wf) (hl : o.Light) : AC Tryz.prog 107 [.sc (.int .i64 f), o.av] (fun r => r = .s (.sl (byA (putO f o)))) := by
  have c1 := hl.cart; have c2 := hl.item; have c3 := hl.group; have c4 := hl.name; have c5 := hl.text; have c6 := hl.drops
  have a1 := tagP_len f o.id; have a2 := tagP_len f o.schema; have a3 := putN_len f o.time; have a4 := textP_len f o.cart; have a5 := putN_len f o.kind; have a6 := textP_len f o.item
  have a7 := refP_len f o.at_; have a8 := putN_len f o.delta; have a10 := textP_len f o.text; have a11 := putN_len f (o.drops.length : Nat)
  have a9 : (flagB o.has).length = 1 := rfl
  have h0 := po12_len (f := f) hl 0
  have l12 : po12 f o 0 = po11 f o := by unfold po12; simp
  change AC _ _ [.sc (.int .i64 f), .ag [AI o.id.rep, AI o.id.n, AI o.schema.rep, AI o.schema.n, AI o.time, AS o.cart, AI o.kind, AS o.item, AI o.at_.scope, AS o.at_.group, AS o.at_.name, AI o.delta, AB o.has, AS o.text, .sl (o.drops.map TagD.cs)]] _; refine AC.of' 92 21 Tryz.func107 rfl ?_; change AW _ _ _ _ [TK.mk 0 .off, TK.mk 0 .off, TK.mk 0 .off, TK.mk 0 .off, TK.mk 0 .off, TK.mk 0 .off, TK.mk 0 .off, TK.mk 0 .off, TK.mk 0 .off, TK.mk 0 .off, TK.mk 0 .off, TK.mk 0 .off, TK.mk 0 .off, TK.mk 0 .off, TK.mk 0 .off, TK.mk 0 .off, TK.mk 0 .off, TK.mk 0 .off, TK.mk 0 .off, TK.mk 0 .off, TK.mk 0 .off]; refine AW.seq (AW.region (AL.op rfl (AOpB.op (op_box 0 rfl rfl rfl rfl rfl ?_)))); refine AL.n ?_; refine AL.ra ?_; refine AL.nil (AW.seq (AW.region (AL.rm ?_))); refine AL.r (qa fo_48_0) ?_; refine AL.r (qN ag_34) ?_
  refine AL.r (rd_build rfl pl_133 ze_133 rfl rfl) ?_; refine AL.op rfl (AOpB.op (op_call (r8tag_c f hf h o.id hw.id1 hw.id2) rfl (by kernel_rfl) rfl (some 1) ?_)); rintro r rfl; refine ⟨_, rfl, ?_⟩; refine AL.n ?_; refine AL.ra ?_; refine AL.nil (AW.seq (AW.region ?_)); (iterate 2 refine AL.rm ?_); refine AL.r (qa fo_48_1) ?_; refine AL.r (qN ag_34) ?_; refine AL.r (rd_build rfl pl_133 ze_133 rfl rfl) ?_; refine AL.op rfl (AOpB.op (op_call (r8tag_c f hf h o.schema hw.sc1 hw.sc2) rfl (by kernel_rfl) rfl (some 2) ?_)); rintro r rfl; refine ⟨_, rfl, ?_⟩; refine AL.n ?_; refine AL.op rfl (op_append rfl ap_52 rfl rfl (src_ow rfl rfl) (by simp only [byA_len, List.length_append]; omega) (by simp only [byA_len, List.length_append]; omega) ?_); refine AL.n ?_; refine AL.ra ?_
  refine AL.nil (AW.seq (AW.region ?_)); (iterate 2 refine AL.rm ?_); refine AL.r (qa fo_48_2) ?_; refine AL.r (ql ag_2) ?_; refine AL.op rfl (AOpB.op (op_call (crput_n f hf h o.time hw.time) rfl (by kernel_rfl) rfl (some 4) ?_)); rintro r rfl; refine ⟨_, rfl, ?_⟩; refine AL.n ?_; refine AL.op rfl (op_append rfl ap_52 rfl rfl (src_ow rfl rfl) (by simp only [byA_len, List.length_append]; omega) (by simp only [byA_len, List.length_append]; omega) ?_); refine AL.n ?_; refine AL.ra ?_; refine AL.nil (AW.seq (AW.region ?_)); (iterate 2 refine AL.rm ?_); refine AL.r (qa fo_48_3) ?_; refine AL.r (ql ag_9) ?_; refine AL.op rfl (AOpB.op (op_call (rtext20_c f hf h o.cart (by omega)) rfl (by kernel_rfl) rfl (none) ?_))
  rintro r rfl; refine AL.n ?_; refine AL.op rfl (op_append rfl ap_52 rfl rfl (src_s rfl) (by simp only [byA_len, List.length_append]; omega) (by simp only [byA_len, List.length_append]; omega) ?_); refine AL.n ?_; refine AL.ra ?_; refine AL.nil (AW.seq (AW.region ?_)); (iterate 2 refine AL.rm ?_); refine AL.r (qa fo_48_4) ?_; refine AL.r (ql ag_3) ?_; refine AL.op rfl (AOpB.op (op_call (crput_n f hf h o.kind hw.kind) rfl (by kernel_rfl) rfl (some 7) ?_)); rintro r rfl; refine ⟨_, rfl, ?_⟩; refine AL.n ?_; refine AL.op rfl (op_append rfl ap_52 rfl rfl (src_ow rfl rfl) (by simp only [byA_len, List.length_append]; omega) (by simp only [byA_len, List.length_append]; omega) ?_); refine AL.n ?_; refine AL.ra ?_; refine AL.nil (AW.seq (AW.region (AL.rm ?_)))
  refine AL.rm ?_; refine AL.r (qa fo_48_5) ?_; refine AL.r (ql ag_9) ?_; refine AL.op rfl (AOpB.op (op_call (rtext20_c f hf h o.item (by omega)) rfl (by kernel_rfl) rfl (none) ?_)); rintro r rfl; refine AL.n ?_; refine AL.op rfl (op_append rfl ap_52 rfl rfl (src_s rfl) (by simp only [byA_len, List.length_append]; omega) (by simp only [byA_len, List.length_append]; omega) ?_); refine AL.n ?_; refine AL.ra ?_; refine AL.nil (AW.seq (AW.region ?_)); (iterate 2 refine AL.rm ?_); refine AL.r (qa fo_48_6) ?_; refine AL.r (qN ag_36) ?_; refine AL.r (rd_build rfl pl_133 ze_133 rfl rfl) ?_; refine AL.op rfl (AOpB.op (op_call (r8ref_c f hf h o.at_ hw.scope (by omega) (by omega)) rfl (by kernel_rfl) rfl (some 10) ?_))
  rintro r rfl; refine ⟨_, rfl, ?_⟩; refine AL.n ?_; refine AL.op rfl (op_append rfl ap_52 rfl rfl (src_ow rfl rfl) (by simp only [byA_len, List.length_append]; omega) (by simp only [byA_len, List.length_append]; omega) ?_); refine AL.n ?_; refine AL.ra ?_; refine AL.nil (AW.seq (AW.region ?_)); (iterate 2 refine AL.rm ?_); refine AL.r (qa fo_48_7) ?_; refine AL.r (ql ag_2) ?_; refine AL.op rfl (AOpB.op (op_call (crput_n f hf h o.delta hw.delta) rfl (by kernel_rfl) rfl (some 12) ?_)); rintro r rfl; refine ⟨_, rfl, ?_⟩; refine AL.n ?_; refine AL.op rfl (op_append rfl ap_52 rfl rfl (src_ow rfl rfl) (by simp only [byA_len, List.length_append]; omega) (by simp only [byA_len, List.length_append]; omega) ?_); refine AL.n ?_; refine AL.ra ?_; refine AL.nil (AW.seq ?_)
  refine AW.region ?_; (iterate 2 refine AL.rm ?_); refine AL.r (qa fo_48_8) ?_; refine AL.r (ql ag_4) ?_; refine AL.r (rd_build rfl pl_133 ze_133 rfl rfl) ?_; refine AL.op rfl (AOpB.op (op_call (r8flag_c f hf h o.has) rfl (by kernel_rfl) rfl (some 14) ?_)); rintro r rfl; refine ⟨_, rfl, ?_⟩; refine AL.n ?_; refine AL.op rfl (op_append rfl ap_52 rfl rfl (src_ow rfl rfl) (by simp only [byA_len, List.length_append]; omega) (by simp only [byA_len, List.length_append]; omega) ?_); refine AL.n ?_; refine AL.ra ?_; refine AL.nil (AW.seq (AW.region ?_)); (iterate 2 refine AL.rm ?_); refine AL.r (qa fo_48_9) ?_; refine AL.r (ql ag_9) ?_; refine AL.op rfl (AOpB.op (op_call (rtext20_c f hf h o.text (by omega)) rfl (by kernel_rfl) rfl (none) ?_))
  rintro r rfl; refine AL.n ?_; refine AL.op rfl (op_append rfl ap_52 rfl rfl (src_s rfl) (by simp only [byA_len, List.length_append]; omega) (by simp only [byA_len, List.length_append]; omega) ?_); refine AL.n ?_; refine AL.ra ?_; refine AL.nil (AW.seq (AW.region ?_)); (iterate 2 refine AL.rm ?_); refine AL.r (qa fo_48_10) ?_; refine AL.r (ql ag_24) ?_; refine AL.r (rd_len_sl rfl el_24 rfl) ?_; refine AL.op rfl (AOpB.op (op_call (crput_n f hf h (o.drops.length : Nat) ⟨by omega, by omega⟩) rfl (by kernel_rfl) rfl (some 17) ?_)); rintro r rfl; refine ⟨_, rfl, ?_⟩; refine AL.n ?_; refine AL.op rfl (op_append rfl ap_52 rfl rfl (src_ow rfl rfl) (by simp only [byA_len, List.length_append]; omega) (by simp only [byA_len, List.length_append]; omega) ?_); refine AL.n ?_; refine AL.ra ?_; refine AL.nil ?_
  change AW _ _ _ _ _; refine AW.seq (AW.seq (AW.region (AL.ra ?_))); refine AL.nil (AW.block (AW.loopM (ι := Nat × Nat) [76, 77, 78, 79, 80, 81, 82, 83, 84, 85, 86, 87, 88, 89, 90, 91, 92] (fun ⟨k, gL⟩ => [(6, AI (k : Int)), (5, .ow 1 gL)]) [19, 20] (fun ⟨k, gL⟩ => [(1, ⟨gL, .own 5 1 (byA (po12 f o k))⟩)]) (fun ⟨k, gL⟩ => k ≤ o.drops.length) (fun ⟨k, gL⟩ => o.drops.length - k) (0, 11) (Nat.zero_le _) wk (by simp only [anys, upds, offs, List.set_cons_zero, List.set_cons_succ]; repeat (first | exact Sk.nil _ | refine Sk.same _ ?_ | refine Sk.scr _ (by decide) ?_ | refine Sk.eq _ (by rw [l12]; rfl) ?_)) ?_)); rintro ⟨k, gL⟩ gs hJ; refine AW.nm ?_
  refine AW.seq (AW.seq (AW.region (AL.rm ?_))); refine AL.r (qa fo_48_10) ?_; refine AL.r (ql ag_24) ?_; refine AL.r (rd_len_sl rfl el_24 rfl) ?_; refine AL.r qb ?_; refine AL.nil (AW.cd rfl (fun h80 => ?_) (fun h80 => ?_))
  ·refine AW.skip (AW.seq (AW.block (AW.region ?_)))
   have l3 := tagP_len f (o.drops[k]'(by omega))
   have l4 := po12_len (f := f) hl k
   (iterate 2 refine AL.rm ?_); refine AL.r (qa fo_48_10) ?_; refine AL.r (ql ag_24) ?_; refine AL.rm ?_; refine AL.r (rd_iaddr_sl rfl el_24 rfl rfl rfl (get_mapA (by omega)) rfl) ?_; refine AL.r (rd_loadN_ep rfl ag_34 rfl (Nat.le_of_ble_eq_true rfl) rfl) ?_; refine AL.r (rd_build rfl pl_133 ze_133 rfl rfl) ?_; refine AL.op rfl (AOpB.op (op_call (r8tag_c f hf h (o.drops[k]'(by omega)) (hw.drops _ (List.getElem_mem _)).1 (hw.drops _ (List.getElem_mem _)).2) rfl (by kernel_rfl) rfl (some 19) ?_)); rintro r rfl; refine ⟨_, rfl, ?_⟩; refine AL.n ?_; refine AL.op rfl (op_append rfl ap_52 rfl rfl (src_ow rfl rfl) (by simp only [byA_len, List.length_append]; omega) (by simp only [byA_len, List.length_append]; omega) ?_); refine AL.n ?_; refine AL.ra ?_; refine AL.nil (AW.region (AL.rm ?_)); refine AL.r (rd_arith_add rfl rfl rfl (by first | exact IntWalk.i64_in _ (by omega) | rfl)) ?_
   refine AL.ra ?_; refine AL.nil ?_; refine ⟨⟨k + 1, gL + 1⟩, ?_, by first | omega | (simp only []; omega), ?_, ?_⟩
   ·show k + 1 ≤ o.drops.length; omega
   ·exact wk
   ·simp only [anys, upds, offs, List.set_cons_zero, List.set_cons_succ]; repeat (first | exact Sk.nil _ | refine Sk.same _ ?_ | refine Sk.scr _ (by decide) ?_ | refine Sk.eq _ (by first | rfl | exact po12_row (by omega)) ?_)
  ·refine AW.exit ?_; change AW _ _ _ _ _; refine AW.seq (AW.region (AL.rm ?_)); refine AL.ra ?_; refine AL.nil (AW.ret (res1 rfl (ResV.tmp rfl) (by first | rfl | exact setA_own rfl) ?_)); obtain rfl : k = o.drops.length := (by omega); rfl
end
set_option maxRecDepth 100000
def asks20 : List ThingD := [askT 3 0, askT 3 0, askT 0 0, askT 1 12, askT 6 5, askT 1 12, askT 5 0, askT 0 0, askT 2 0, askT 1 40, askT 6 60]
def ask20 (i : Nat) : ThingD := asks20.getD i (askT 0 0)
section
variable (b : List UInt8) (f at0 : Int)
def st8 : Nat → Int
  | 0 => at0
  | k + 1 => (rd8 b (st8 k) f (ask20 k)).2.1
def dst8 : Nat → List TagD × Int × Bool
  | 0 => ([], st8 b f at0 11, true)
  | j + 1 => ((dst8 j).1 ++ [(rd8 b (dst8 j).2.1 f (askT 3 0)).1.t], (rd8 b (dst8 j).2.1 f (askT 3 0)).2.1, (dst8 j).2.2 && (rd8 b (dst8 j).2.1 f (askT 3 0)).2.2)
end
end Go.Proofs.YtlapcfnmmpbeeaaGreat
