/- Texts of the proof of talkPacks_holds, put together by a program: PnA OgA. -/
import Derived.Test.YtlapcfnmmpbeeaaGreatPP19
import Derived.Test.YtlapcfnmmpbeeaaGreatPP28
set_option linter.unusedSimpArgs false
set_option linter.unusedVariables false
namespace Go.Proofs.YtlapcfnmmpbeeaaGreat
set_option maxRecDepth 100000
set_option maxRecDepth 100000
open Go.RowKit
theorem nameB_len {s : Bytes} (h : nameB s = true) : s.length ≤ 12 := by
  unfold nameB at h
  simp only [Bool.and_eq_true, decide_eq_true_eq] at h
  exact h.1.2
theorem placeB_len {r : RefD} (h : placeB r = true) : r.group.length ≤ 12 ∧ r.name.length ≤ 12 := by
  unfold placeB at h
  simp only [Bool.and_eq_true, Bool.or_eq_true, beq_iff_eq] at h
  refine ⟨?_, nameB_len h.1.2⟩
  rcases h.2 with h | h
  · rw [h]; simp
  · exact nameB_len h
theorem count_bd (r : RdrD) {most : Int} (hm : 0 ≤ most) : 0 ≤ (countP r most).1 ∧ (countP r most).1 ≤ most := by
  unfold countP
  split
  · exact ⟨Int.le_refl _, hm⟩
  · rename_i h; omega
theorem tagP_len (f : Int) (t : TagD) : (tagP f t).length ≤ 20 := by
  have := putN_len f t.rep; have := putN_len f t.n
  unfold tagP; rw [List.length_append]; omega
theorem refP_len (f : Int) (r : RefD) : (refP f r).length ≤ 30 + r.group.length + r.name.length := by
  have := putN_len f r.scope; have := textP_len f r.group; have := textP_len f r.name
  unfold refP; simp only [List.length_append]; omega
theorem pnum_o (b : List UInt8) (f z : Int) (hb : b.length ≤ 549755813888) (hf : i64R f) (hz : i64R z) (h : okF f = true) : AC Tryz.prog 44 [.sl (byA b), .sc (.int .i64 f), .sc (.int .i64 z)] (fun r => r = .o 5 1 (byA (b ++ putN f z))) := by
  refine AC.of' 8 1 Tryz.func44 rfl ?_; change AW _ _ _ _ [TK.mk 0 .off]; refine AW.seq (AW.region (AL.ra ?_)); refine AL.nil (AW.seq (AW.region ?_)); (iterate 3 refine AL.rm ?_); refine AL.op rfl (AOpB.op (op_call (cput_o b f z hf hz (by omega) (by simp [putN_ne (okF_iff.1 h)])) rfl (by kernel_rfl) rfl (some 0) ?_)); rintro r rfl; refine ⟨_, rfl, ?_⟩; refine AL.n ?_; refine AL.ra ?_; refine AL.nil (AW.ret (res1o rfl (ResV.tmp rfl) rfl ?_)); rfl
structure RdrD.At (r : RdrD) (f : Int) (pre suf : List UInt8) : Prop where
  b : r.b = pre ++ suf
  at_ : r.at_ = (pre.length : Nat)
  bad : r.bad = false
  ff : r.f = f
  ok : okF f = true
section
variable {r : RdrD} {f : Int} {pre suf : List UInt8}
theorem RdrD.At.nb (h : r.At f pre suf) : badP r = false := by unfold badP; rw [h.bad, h.ff, h.ok]; rfl
theorem num_at {z : Int} (h : r.At f pre (putN f z ++ suf)) (hz : i64R z) : (numP r).1 = z ∧ (numP r).2.At f (pre ++ putN f z) suf := by
  have e : getN r.b r.at_ r.f = (z, (((pre ++ putN f z).length : Nat) : Int), 0) := by
    rw [h.b, h.at_, h.ff, ← List.append_assoc, List.length_append]
    exact getN_put pre suf f z hz.1 hz.2 (okF_iff.1 h.ok)
  have e2 : numP r = (z, { r with at_ := (((pre ++ putN f z).length : Nat) : Int) }) := by
    unfold numP
    rw [h.nb, if_neg (by decide), e, if_pos rfl]
  rw [e2]
  exact ⟨rfl, ⟨by show r.b = _; rw [h.b, List.append_assoc], rfl, h.bad, h.ff, h.ok⟩⟩
theorem left_at (h : r.At f pre suf) : leftP r = suf.length := by
  unfold leftP
  rw [h.nb, if_neg (by decide), h.b, h.at_, List.length_append]; omega
theorem text_at {s : Bytes} (h : r.At f pre (textP f s ++ suf)) (hs : s.length ≤ 1000000) {most : Int} : (s.length ≤ most → (rtextP r most).1 = s ∧ (rtextP r most).2.At f (pre ++ textP f s) suf) ∧ (most < s.length → badP (rtextP r most).2 = true) := by
  have et : textP f s = putN f (s.length : Nat) ++ s := by unfold textP; rw [if_pos h.ok]
  rw [et] at h ⊢
  rw [List.append_assoc] at h
  obtain ⟨a, b⟩ := num_at h ⟨by omega, by omega⟩
  have hl := left_at b
  refine ⟨fun h1 => ?_, fun h1 => ?_⟩
  · have e : textR r most = (numP r).2 := by
      unfold textR
      rw [if_neg (by rw [a, hl, List.length_append]; omega)]
    have e2 : rtextP r most = (((numP r).2.b.take ((numP r).2.at_ + (numP r).1).toNat).drop (numP r).2.at_.toNat, { (numP r).2 with at_ := (numP r).2.at_ + (numP r).1 }) := by
      unfold rtextP
      rw [e, b.nb, if_neg (by decide)]
    rw [e2]
    refine ⟨?_, ⟨?_, ?_, b.bad, b.ff, b.ok⟩⟩
    · show ((numP r).2.b.take ((numP r).2.at_ + (numP r).1).toNat).drop (numP r).2.at_.toNat = s
      rw [b.b, b.at_, a, ← List.append_assoc]
      generalize pre ++ putN f ((s.length : Nat) : Int) = B
      rw [show (((B.length : Nat) : Int) + ((s.length : Nat) : Int)).toNat = (B ++ s).length by rw [List.length_append]; omega, Int.toNat_natCast, List.take_left, List.drop_left]
    · show (numP r).2.b = _
      rw [b.b]; simp only [List.append_assoc]
    · show (numP r).2.at_ + (numP r).1 = _
      rw [b.at_, a]; simp only [List.length_append]; omega
  · have e : textR r most = spoilP (numP r).2 := by
      unfold textR
      rw [if_pos (by rw [a]; omega)]
    unfold rtextP
    rw [e, if_pos (by rfl)]
    rfl
theorem tag_at {t : TagD} (h : r.At f pre (tagP f t ++ suf)) (h1 : i64R t.rep) (h2 : i64R t.n) : (rtagP r).1 = t ∧ (rtagP r).2.At f (pre ++ tagP f t) suf := by
  unfold tagP at h ⊢
  rw [List.append_assoc] at h
  obtain ⟨a, b⟩ := num_at h h1
  obtain ⟨c, d⟩ := num_at b h2
  rw [List.append_assoc] at d
  unfold rtagP
  rw [d.nb, if_neg (by decide), a, c]
  exact ⟨rfl, d⟩
theorem flag_at {x : Bool} (h : r.At f pre (flagB x ++ suf)) : (rflagP r).1 = x ∧ (rflagP r).2.At f (pre ++ flagB x) suf := by
  have hl := left_at h
  have e : r.b[r.at_.toNat]? = some (if x then 1 else 0) := by
    rw [h.b, h.at_, Int.toNat_natCast]; simp [flagB]
  have hg := flag_good (r := r) (c := if x then 1 else 0) (by rw [hl]; simp [flagB]; omega) e (by cases x <;> decide)
  rw [hg]
  exact ⟨by cases x <;> rfl, ⟨by simp only [h.b, List.append_assoc], by simp only [h.at_, flagB, List.length_append, List.length_cons, List.length_nil]; omega, h.bad, h.ff, h.ok⟩⟩
theorem count_at {n : Nat} (h : r.At f pre (putN f (n : Nat) ++ suf)) (hn : n ≤ 1000000) {most : Int} : ((n : Int) ≤ most → (countP r most).1 = n ∧ (countP r most).2.At f (pre ++ putN f (n : Nat)) suf) ∧ (most < n → badP (countP r most).2 = true) := by
  obtain ⟨a, b⟩ := num_at h ⟨by omega, by omega⟩
  refine ⟨fun h1 => ?_, fun h1 => ?_⟩
  · unfold countP
    rw [if_neg (by rw [a]; omega)]
    exact ⟨a, b⟩
  · unfold countP
    rw [if_pos (by rw [a]; omega)]
    rfl
theorem bad_num (h : badP r = true) : numP r = (0, r) := by unfold numP; rw [if_pos h]
theorem bad_text (h : badP r = true) {most : Int} (hm : 0 ≤ most) : rtextP r most = ([], r) := by
  have e : textR r most = r := by
    unfold textR leftP
    rw [bad_num h]
    simp only []
    rw [if_pos h, if_neg (by omega)]
  unfold rtextP
  rw [e, if_pos h]
theorem bad_tag (h : badP r = true) : badP (rtagP r).2 = true := by unfold rtagP; rw [bad_num h]; simp only []; rw [bad_num h, if_pos h]; exact h
theorem bad_flag (h : badP r = true) : badP (rflagP r).2 = true := by
  unfold rflagP leftP
  rw [if_pos h, if_pos (by decide)]
  rfl
theorem bad_count (h : badP r = true) {most : Int} (hm : 0 ≤ most) : badP (countP r most).2 = true := by
  unfold countP
  rw [bad_num h]
  simp only []
  rw [if_neg (by omega)]
  exact h
theorem bad_ref (h : badP r = true) : badP (rrefP r).2 = true := by
  unfold rrefP
  rw [bad_num h]
  simp only []
  rw [bad_text h (by omega)]
  simp only []
  rw [bad_text h (by omega)]
  simp only []
  rw [if_pos h]; exact h
theorem ref_at {x : RefD} (h : r.At f pre (refP f x ++ suf)) (h1 : i64R x.scope) (hg : x.group.length ≤ 1000000) (hn : x.name.length ≤ 1000000) : (x.group.length ≤ 12 ∧ x.name.length ≤ 12 → (rrefP r).1 = x ∧ (rrefP r).2.At f (pre ++ refP f x) suf) ∧ (12 < x.group.length ∨ 12 < x.name.length → badP (rrefP r).2 = true) := by
  unfold refP at h ⊢
  rw [List.append_assoc, List.append_assoc] at h
  obtain ⟨a, b⟩ := num_at h h1
  obtain ⟨c1, c2⟩ := text_at b hg (most := 12)
  have fin : badP (rtextP (rtextP (numP r).2 12).2 12).2 = true → badP (rrefP r).2 = true := fun hb => by
    unfold rrefP
    rw [if_pos hb]; exact hb
  by_cases hg2 : x.group.length ≤ 12
  · obtain ⟨c3, c4⟩ := c1 (by omega)
    obtain ⟨d1, d2⟩ := text_at c4 hn (most := 12)
    refine ⟨fun hx => ?_, fun hx => fin (d2 (by omega))⟩; obtain ⟨d3, d4⟩ := d1 (by omega)
    unfold rrefP
    rw [d4.nb, if_neg (by decide), a, c3, d3]
    rw [List.append_assoc, List.append_assoc] at d4
    rw [List.append_assoc]
    exact ⟨rfl, d4⟩
  · refine ⟨fun hx => absurd hx.1 hg2, fun _ => fin ?_⟩
    have := c2 (by omega)
    rw [bad_text this (by omega)]
    exact this
end
set_option maxRecDepth 100000
def tagsP : Nat → RdrD → List TagD × RdrD
  | 0, r => ([], r)
  | n + 1, r => ((tagsP n r).1 ++ [(rtagP (tagsP n r).2).1], (rtagP (tagsP n r).2).2)
def q1 (r : RdrD) : RdrD := (rtagP r).2
def q2 (r : RdrD) : RdrD := (rtagP (q1 r)).2
def q3 (r : RdrD) : RdrD := (numP (q2 r)).2
def q4 (r : RdrD) : RdrD := (rtextP (q3 r) 12).2
def q5 (r : RdrD) : RdrD := (numP (q4 r)).2
def q6 (r : RdrD) : RdrD := (rtextP (q5 r) 12).2
def q7 (r : RdrD) : RdrD := (rrefP (q6 r)).2
def q8 (r : RdrD) : RdrD := (numP (q7 r)).2
def q9 (r : RdrD) : RdrD := (rflagP (q8 r)).2
def q10 (r : RdrD) : RdrD := (rtextP (q9 r) 40).2
def q11 (r : RdrD) : RdrD := (countP (q10 r) 60).2
def qn (r : RdrD) : Nat := (countP (q10 r) 60).1.toNat
def q12 (r : RdrD) : RdrD := (tagsP (qn r) (q11 r)).2
def rawO (r : RdrD) : OpD := ⟨(rtagP r).1, (rtagP (q1 r)).1, (numP (q2 r)).1, (rtextP (q3 r) 12).1, (numP (q4 r)).1, (rtextP (q5 r) 12).1, (rrefP (q6 r)).1, (numP (q7 r)).1, (rflagP (q8 r)).1, (rtextP (q9 r) 40).1, (tagsP (qn r) (q11 r)).1⟩
def getO (r : RdrD) : OpD × RdrD := if badP (q12 r) then (zeroO, q12 r) else if rightO (rawO r) then (rawO r, q12 r) else (zeroO, spoilP (q12 r))
theorem tags_ok {r : RdrD} (h : r.Ok) : ∀ n, r.Of (tagsP n r).2 ∧ (tagsP n r).1.length = n
  | 0 => ⟨h.of, rfl⟩
  | n + 1 => by
    obtain ⟨a, b⟩ := tags_ok h n
    exact ⟨a.trans a.ok.tag, by rw [tagsP, List.length_append, b]; rfl⟩
section
variable {r : RdrD} (h : r.Ok)
include h
theorem q1_ok : r.Of (q1 r) := h.tag
theorem q2_ok : r.Of (q2 r) := (q1_ok h).trans (q1_ok h).ok.tag
theorem q3_ok : r.Of (q3 r) := (q2_ok h).trans (q2_ok h).ok.num
theorem q4_ok : r.Of (q4 r) := (q3_ok h).trans ((q3_ok h).ok.text 12)
theorem q5_ok : r.Of (q5 r) := (q4_ok h).trans (q4_ok h).ok.num
theorem q6_ok : r.Of (q6 r) := (q5_ok h).trans ((q5_ok h).ok.text 12)
theorem q7_ok : r.Of (q7 r) := (q6_ok h).trans (q6_ok h).ok.ref
theorem q8_ok : r.Of (q8 r) := (q7_ok h).trans (q7_ok h).ok.num
theorem q9_ok : r.Of (q9 r) := (q8_ok h).trans (q8_ok h).ok.flag
theorem q10_ok : r.Of (q10 r) := (q9_ok h).trans ((q9_ok h).ok.text 40)
theorem q11_ok : r.Of (q11 r) := (q10_ok h).trans ((q10_ok h).ok.count 60)
theorem q12_ok : r.Of (q12 r) := (q11_ok h).trans (tags_ok (q11_ok h).ok _).1
end
theorem tags_row {g : Nat} {rs : List TagD} {t : TagD} : TK.mk g (owM true 34 2 (rs.map TagD.cs ++ [[AI t.rep, AI t.n]])) = TK.mk g (owM true 34 2 ((rs ++ [t]).map TagD.cs)) := by
  rw [List.map_append]; rfl
section
variable (g : Nat) (r : RdrD)
set_option maxHeartbeats 1000000 in
theorem oget_c (h : r.Ok) : ACo Tryz.prog 64 [.bx 0 g 0] (RdrT g r) (fun y os' => y = (getO r).1.av ∧ os' = RdrT g (getO r).2) := by
  obtain ⟨hc1, hc2⟩ := count_bd (q10 r) (most := 60) (by omega)
  have hqn : ((qn r : Nat) : Int) = (countP (q10 r) 60).1 := Int.toNat_of_nonneg hc1
  refine ACo.of' (st0 := [⟨g, .box 138 [.sl (byA r.b), .sc (.int .i64 r.f), .sc (.int .i64 r.at_), .sc (.bool r.bad)]⟩, TK.mk 0 .off, TK.mk 0 .off, TK.mk 0 .off, TK.mk 0 .off]) 57 4 Tryz.func64 rfl 1 ?_; refine AW.seq (AW.region (AL.op rfl (AOpB.op (op_alloc 1 rfl ze_48 rfl ?_)))); refine AL.no ?_; refine AL.nil (AW.seq (AW.region (AL.op rfl (AOpB.op (op_alloc 2 rfl ze_48 rfl ?_))))); refine AL.no ?_; refine AL.nil (AW.seq (AW.region (AL.rm ?_))); refine AL.op rfl (calloR (rdtag_c g r h) [0] ?_); rintro y os' ⟨rfl, rfl⟩; refine AL.noR ?_; refine AL.r (qa fo_48_0) ?_; refine AL.op rfl (op_store_ rfl rfl rfl rfl rfl sz_34 ?_); refine AL.no ?_; refine AL.nil (AW.seq (AW.region (AL.rm ?_))); refine AL.op rfl (calloR (rdtag_c g (q1 r) (q1_ok h).ok) [0] ?_)
  rintro y os' ⟨rfl, rfl⟩; refine AL.noR ?_; refine AL.r (qa fo_48_1) ?_; refine AL.op rfl (op_store_ rfl rfl rfl rfl rfl sz_34 ?_); refine AL.no ?_; refine AL.nil (AW.seq (AW.region (AL.rm ?_))); refine AL.op rfl (calloR (rnum_c g (q2 r) (q2_ok h).ok) [0] ?_); rintro y os' ⟨rfl, rfl⟩; refine AL.noR ?_; refine AL.r (qa fo_48_2) ?_; refine AL.op rfl (op_store_ rfl rfl rfl rfl rfl sz_2 ?_); refine AL.no ?_; refine AL.nil (AW.seq (AW.region (AL.rm ?_))); refine AL.op rfl (calloR (rtext_c g (q3 r) (q3_ok h).ok 12) [0] ?_); rintro y os' ⟨rfl, rfl⟩; refine AL.noR ?_; refine AL.r (qa fo_48_3) ?_; refine AL.op rfl (op_store_ rfl rfl rfl rfl rfl sz_9 ?_); refine AL.no ?_; refine AL.nil ?_
  refine AW.seq (AW.region (AL.rm ?_)); refine AL.op rfl (calloR (rnum_c g (q4 r) (q4_ok h).ok) [0] ?_); rintro y os' ⟨rfl, rfl⟩; refine AL.noR ?_; refine AL.r (qa fo_48_4) ?_; refine AL.op rfl (op_store_ rfl rfl rfl rfl rfl sz_3 ?_); refine AL.no ?_; refine AL.nil (AW.seq (AW.region (AL.rm ?_))); refine AL.op rfl (calloR (rtext_c g (q5 r) (q5_ok h).ok 12) [0] ?_); rintro y os' ⟨rfl, rfl⟩; refine AL.noR ?_; refine AL.r (qa fo_48_5) ?_; refine AL.op rfl (op_store_ rfl rfl rfl rfl rfl sz_9 ?_); refine AL.no ?_; refine AL.nil (AW.seq (AW.region (AL.rm ?_))); refine AL.op rfl (calloR (rdref_c g (q6 r) (q6_ok h).ok) [0] ?_); rintro y os' ⟨rfl, rfl⟩; refine AL.noR ?_; refine AL.r (qa fo_48_6) ?_
  refine AL.op rfl (op_store_ rfl rfl rfl rfl rfl sz_36 ?_); refine AL.no ?_; refine AL.nil (AW.seq (AW.region (AL.rm ?_))); refine AL.op rfl (calloR (rnum_c g (q7 r) (q7_ok h).ok) [0] ?_); rintro y os' ⟨rfl, rfl⟩; refine AL.noR ?_; refine AL.r (qa fo_48_7) ?_; refine AL.op rfl (op_store_ rfl rfl rfl rfl rfl sz_2 ?_); refine AL.no ?_; refine AL.nil (AW.seq (AW.region (AL.rm ?_))); refine AL.op rfl (calloR (rflag_c g (q8 r) (q8_ok h).ok) [0] ?_); rintro y os' ⟨rfl, rfl⟩; refine AL.noR ?_; refine AL.r (qa fo_48_8) ?_; refine AL.op rfl (op_store_ rfl rfl rfl rfl rfl sz_4 ?_); refine AL.no ?_; refine AL.nil (AW.seq (AW.region (AL.rm ?_))); refine AL.op rfl (calloR (rtext_c g (q9 r) (q9_ok h).ok 40) [0] ?_)
  rintro y os' ⟨rfl, rfl⟩; refine AL.noR ?_; refine AL.r (qa fo_48_9) ?_; refine AL.op rfl (op_store_ rfl rfl rfl rfl rfl sz_9 ?_); refine AL.no ?_; refine AL.nil (AW.seq (AW.region (AL.rm ?_))); refine AL.op rfl (calloR (rcount_c g (q10 r) (q10_ok h).ok 60) [0] ?_); rintro y os' ⟨rfl, rfl⟩; refine AL.noR ?_; refine AL.ra ?_; refine AL.nil (AW.seq (AW.seq (AW.region (AL.nilbx 2 14 4 34 2 rfl rfl rfl (by decide) ?_)))); refine AL.no ?_; (iterate 2 refine AL.rm ?_); refine AL.nil (AW.block (AW.loopM (ι := Nat × Nat) [39, 40, 41, 42, 43, 44, 45, 46, 47] (fun ⟨j, gL⟩ => [(38, AI (j : Int))]) [3] (fun ⟨j, gL⟩ => [(0, ⟨g, .box 138 [.sl (byA (tagsP j (q11 r)).2.b), .sc (.int .i64 (tagsP j (q11 r)).2.f), .sc (.int .i64 (tagsP j (q11 r)).2.at_), .sc (.bool (tagsP j (q11 r)).2.bad)]⟩), (4, ⟨gL, owM true 34 2 ((tagsP j (q11 r)).1.map TagD.cs)⟩), (2, ⟨1, .box 48 [AI (rtagP r).1.rep, AI (rtagP r).1.n, AI (rtagP (q1 r)).1.rep, AI (rtagP (q1 r)).1.n, AI (numP (q2 r)).1, AS (rtextP (q3 r) 12).1, AI (numP (q4 r)).1, AS (rtextP (q5 r) 12).1, AI (rrefP (q6 r)).1.scope, AS (rrefP (q6 r)).1.group, AS (rrefP (q6 r)).1.name, AI (numP (q7 r)).1, AB (rflagP (q8 r)).1, AS (rtextP (q9 r) 40).1, .ow 4 gL]⟩)]) (fun ⟨j, gL⟩ => j ≤ qn r) (fun ⟨j, gL⟩ => qn r - j) (0, 1) (Nat.zero_le _) wk (by simp only [anys, upds, offs, List.set_cons_zero, List.set_cons_succ]; repeat (first | exact Sk.nil _ | refine Sk.same _ ?_ | refine Sk.scr _ (by decide) ?_ | refine Sk.eq _ (by rfl) ?_)) ?_))
  rintro ⟨j, gL⟩ gs hJ; refine AW.nm ?_; refine AW.seq (AW.region (AL.r qb ?_)); refine AL.nil (AW.seq (AW.cd rfl (fun h39 => ?_) (fun h39 => ?_)))
  ·refine AW.skip (AW.seq (AW.block (AW.drawA (by kernel_rfl) ?_)))
   have hto := tags_ok (q11_ok h).ok j
   refine ADA.r 0 rfl (ARdP.a (rdP_faddr_bx rfl fo_48_10 rfl rfl ⟨_, _, rfl⟩)) rfl ?_; refine ADA.r 2 rfl (ARdP.a (rdP_move rfl rfl)) rfl ?_; refine ADA.b ?_; refine ADB.all (is := [1, 3]) (by kernel_rfl) (by simp) ?_; intro i hi; simp only [List.mem_cons, List.not_mem_nil, or_false] at hi
   rcases hi with rfl | rfl
   ·refine ⟨_, rfl, rfl, AOpB.op (ARd.opB (ql ag_24) ?_)⟩; refine ADB.n ?_; refine ADB.mv 3 rfl (calloR (rdtag_c g (tagsP j (q11 r)).2 hto.1.ok) [0] ?_); rintro y os' ⟨rfl, rfl⟩; refine ADB.noR ?_; refine ADB.mv 4 rfl (AOpB.op (bs_set rfl ap_24 ze_34 rfl rfl ?_)); refine ADB.n ?_; refine ADB.mv 5 rfl (op_appendM rfl ap_24 rfl rfl (src_s rfl) (by first | omega | (simp; omega) | simp) (by first | omega | (simp; omega) | simp) ?_); refine ADB.n ?_; refine ADB.r 6 rfl (rdP_faddr_bx rfl fo_48_10 rfl rfl ⟨_, _, rfl⟩) rfl ?_; refine ADB.mv 7 rfl (op_storo rfl rfl rfl rfl rfl sz_24 ?_); refine ADB.n ?_; refine ADB.done (by kernel_rfl) ?_; change AW _ _ _ _ _; refine AW.region ?_; refine AL.r (rd_arith_add rfl rfl rfl (by first | exact IntWalk.i64_in _ (by omega) | rfl)) ?_; refine AL.rm ?_; refine AL.nil ?_; refine ⟨⟨j + 1, gL + 1⟩, ?_, by first | omega | (simp only []; omega), ?_, ?_⟩
    ·show j + 1 ≤ qn r; omega
    ·exact wk
    ·simp only [anys, upds, offs, List.set_cons_zero, List.set_cons_succ]; repeat (first | exact Sk.nil _ | refine Sk.same _ ?_ | refine Sk.scr _ (by decide) ?_ | refine Sk.eq _ (by first | rfl | exact tags_row) ?_)
   ·refine ⟨_, rfl, rfl, calloR (rdtag_c g (tagsP j (q11 r)).2 hto.1.ok) [0] ?_⟩; rintro y os' ⟨rfl, rfl⟩; refine ADB.noR ?_; refine ADB.all (is := [1, 4]) (by kernel_rfl) (by simp) ?_; intro i hi; simp only [List.mem_cons, List.not_mem_nil, or_false] at hi
    rcases hi with rfl | rfl
    ·refine ⟨_, rfl, rfl, AOpB.op (ARd.opB (ql ag_24) ?_)⟩; refine ADB.n ?_; refine ADB.mv 4 rfl (AOpB.op (bs_set rfl ap_24 ze_34 rfl rfl ?_)); refine ADB.n ?_; refine ADB.mv 5 rfl (op_appendM rfl ap_24 rfl rfl (src_s rfl) (by first | omega | (simp; omega) | simp) (by first | omega | (simp; omega) | simp) ?_); refine ADB.n ?_; refine ADB.r 6 rfl (rdP_faddr_bx rfl fo_48_10 rfl rfl ⟨_, _, rfl⟩) rfl ?_; refine ADB.mv 7 rfl (op_storo rfl rfl rfl rfl rfl sz_24 ?_); refine ADB.n ?_; refine ADB.done (by kernel_rfl) ?_; change AW _ _ _ _ _; refine AW.region ?_; refine AL.r (rd_arith_add rfl rfl rfl (by first | exact IntWalk.i64_in _ (by omega) | rfl)) ?_; refine AL.rm ?_; refine AL.nil ?_; refine ⟨⟨j + 1, gL + 1⟩, ?_, by first | omega | (simp only []; omega), ?_, ?_⟩
     ·show j + 1 ≤ qn r; omega
     ·exact wk
     ·simp only [anys, upds, offs, List.set_cons_zero, List.set_cons_succ]; repeat (first | exact Sk.nil _ | refine Sk.same _ ?_ | refine Sk.scr _ (by decide) ?_ | refine Sk.eq _ (by first | rfl | exact tags_row) ?_)
    ·refine ⟨_, rfl, rfl, AOpB.op (bs_set rfl ap_24 ze_34 rfl rfl ?_)⟩; refine ADB.n ?_; refine ADB.mv 1 rfl (AOpB.op (ARd.opB (ql ag_24) ?_)); refine ADB.n ?_; refine ADB.mv 5 rfl (op_appendM rfl ap_24 rfl rfl (src_s rfl) (by first | omega | (simp; omega) | simp) (by first | omega | (simp; omega) | simp) ?_); refine ADB.n ?_; refine ADB.r 6 rfl (rdP_faddr_bx rfl fo_48_10 rfl rfl ⟨_, _, rfl⟩) rfl ?_; refine ADB.mv 7 rfl (op_storo rfl rfl rfl rfl rfl sz_24 ?_); refine ADB.n ?_; refine ADB.done (by kernel_rfl) ?_; change AW _ _ _ _ _; refine AW.region ?_; refine AL.r (rd_arith_add rfl rfl rfl (by first | exact IntWalk.i64_in _ (by omega) | rfl)) ?_; refine AL.rm ?_; refine AL.nil ?_; refine ⟨⟨j + 1, gL + 1⟩, ?_, by first | omega | (simp only []; omega), ?_, ?_⟩
     ·show j + 1 ≤ qn r; omega
     ·exact wk
     ·simp only [anys, upds, offs, List.set_cons_zero, List.set_cons_succ]; repeat (first | exact Sk.nil _ | refine Sk.same _ ?_ | refine Sk.scr _ (by decide) ?_ | refine Sk.eq _ (by first | rfl | exact tags_row) ?_)
  ·refine AW.exit ?_; change AW _ _ _ _ _; refine AW.seq (AW.seq (AW.region ?_)); obtain rfl : j = qn r := (by omega); refine AL.rm ?_; refine AL.op rfl (calloR (rbad_c g (q12 r)) [0] ?_); rintro y os' ⟨rfl, rfl⟩; refine AL.noR ?_; refine AL.nil (AW.cd rfl (fun h49 => ?_) (fun h49 => ?_))
   ·refine AW.seq (AW.region (AL.r (rd_build rfl pl_48 ze_48 rfl rfl) ?_)); refine AL.op rfl (op_store_ rfl rfl rfl rfl rfl sz_48 ?_); refine AL.no ?_; refine AL.nil (AW.ret ?_)
    repeat with_reducible first | refine thenA_ret ?_ | refine inBlockA_ret ?_
    with_reducible first | refine retO_ret ?_ | refine retO_normal ?_
    refine reso1R rfl (ResV.cells rfl rfl ag_48 (Nat.le_of_ble_eq_true rfl) rfl) rfl ?_; rw [getO, if_pos h49]; exact ⟨rfl, rfl⟩
   ·refine AW.skip (AW.seq (AW.seq (AW.region (AL.settlebx 2 14 rfl rfl rfl (by first | rfl | exact cont_owM _ _ _ _) ?_)))); refine AL.no ?_; refine AL.r (qN ag_48) ?_; refine AL.op rfl (AOpB.op (op_call (oright_g (rawO r)) rfl (by kernel_rfl) rfl (none) ?_)); rintro r rfl; refine AL.no ?_; refine AL.r (rd_un rfl rfl (fun _ => rfl)) ?_; refine AL.nil (AW.cd rfl (fun h53 => ?_) (fun h53 => ?_))
    ·refine AW.seq (AW.region (AL.rm ?_)); refine AL.op rfl (calloR (rspoil_c g (q12 r)) [0] ?_); rintro y os' ⟨rfl, rfl⟩; refine AL.noR ?_; refine AL.nil (AW.seq (AW.region (AL.r (rd_build rfl pl_48 ze_48 rfl rfl) ?_))); refine AL.op rfl (op_store_ rfl rfl rfl rfl rfl sz_48 ?_); refine AL.no ?_; refine AL.nil (AW.ret ?_)
     repeat with_reducible first | refine thenA_ret ?_ | refine inBlockA_ret ?_
     with_reducible first | refine retO_ret ?_ | refine retO_normal ?_
     refine reso1R rfl (ResV.cells rfl rfl ag_48 (Nat.le_of_ble_eq_true rfl) rfl) rfl ?_; rw [getO, if_neg (by rw [h49]; decide), if_neg (by rw [h53]; decide)]; exact ⟨rfl, rfl⟩
    ·refine AW.skip (AW.seq (AW.region (AL.r (qN ag_48) ?_))); refine AL.op rfl (op_store_ rfl rfl rfl rfl rfl sz_48 ?_); refine AL.no ?_; refine AL.nil (AW.ret ?_)
     repeat with_reducible first | refine thenA_ret ?_ | refine inBlockA_ret ?_
     with_reducible first | refine retO_ret ?_ | refine retO_normal ?_
     refine reso1R rfl (ResV.cells rfl rfl ag_48 (Nat.le_of_ble_eq_true rfl) rfl) rfl ?_; rw [getO, if_neg (by rw [h49]; decide), if_pos h53]; exact ⟨rfl, rfl⟩
end
end Go.Proofs.YtlapcfnmmpbeeaaGreat
