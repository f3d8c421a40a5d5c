/- A part of a proof. -/
import Derived.Test.YtlapcfnmmpbeeaaPT27
set_option linter.unusedSimpArgs false
set_option linter.unusedVariables false
namespace Go.Proofs.Ytlapcfnmmpbeeaa
set_option maxRecDepth 100000
set_option maxRecDepth 100000
open Go.RowKit
theorem nameB_len {s : Bytes} (h : nameB s = true) : s.length ≤ 12 := by
  unfold nameB at h
  simp only [Bool.and_eq_true, decide_eq_true_eq] at h
  exact h.1.2
theorem placeB_len {r : RefD} (h : placeB r = true) : r.group.length ≤ 12 ∧ r.name.length ≤ 12 := by
  unfold placeB at h
  simp only [Bool.and_eq_true, Bool.or_eq_true, beq_iff_eq] at h
  refine ⟨?_, nameB_len h.1.2⟩
  rcases h.2 with h | h
  · rw [h]; simp
  exact nameB_len h
theorem count_bd (r : RdrD) {most : Int} (hm : 0 ≤ most) : 0 ≤ (countP r most).1 ∧ (countP r most).1 ≤ most := by
  unfold countP
  split
  · exact ⟨Int.le_refl _, hm⟩
  rename_i h; omega
theorem tagP_len (f : Int) (t : TagD) : (tagP f t).length ≤ 20 := by
  have := putN_len f t.rep; have := putN_len f t.n
  unfold tagP; rw [List.length_append]; omega
theorem refP_len (f : Int) (r : RefD) : (refP f r).length ≤ 30 + r.group.length + r.name.length := by
  have := putN_len f r.scope; have := textP_len f r.group; have := textP_len f r.name
  unfold refP; simp only [List.length_append]; omega
theorem pnum_o (b : List UInt8) (f z : Int) (hb : b.length ≤ 549755813888) (hf : i64R f) (hz : i64R z) (h : okF f = true) : AC Try.prog 14 [.sl (byA b), .sc (.int .i64 f), .sc (.int .i64 z)] (fun r => r = .o 5 1 (byA (b ++ putN f z))) := by
  refine AC.of' 8 1 Try.func14 rfl ?_; change AW _ _ _ _ [TK.mk 0 .off]; refine AW.g (AL.ra ?_); refine AL.nil (AW.g ?_); (iterate 3 refine AL.rm ?_); refine AL.oq (AOpB.op (op_call (cput_o b f z hf hz (by omega) (by simp [putN_ne (okF_iff.1 h)])) rfl (by kernel_rfl) rfl (some 0) ?_)); rintro r rfl; refine ⟨_, rfl, ?_⟩; refine AL.n ?_; refine AL.ra ?_; refine AL.nil (AW.ret (res1o rfl (ResV.tmp rfl) rfl ?_)); rfl
structure RdrD.At (r : RdrD) (f : Int) (pre suf : List UInt8) : Prop where
  b : r.b = pre ++ suf
  at_ : r.at_ = (pre.length : Nat)
  bad : r.bad = false
  ff : r.f = f
  ok : okF f = true
section
variable {r : RdrD} {f : Int} {pre suf : List UInt8}
theorem RdrD.At.nb (h : r.At f pre suf) : badP r = false := by unfold badP; rw [h.bad, h.ff, h.ok]; rfl
theorem num_at {z : Int} (h : r.At f pre (putN f z ++ suf)) (hz : i64R z) : (numP r).1 = z ∧ (numP r).2.At f (pre ++ putN f z) suf := by
  have e : getN r.b r.at_ r.f = (z, (((pre ++ putN f z).length : Nat) : Int), 0) := by
    rw [h.b, h.at_, h.ff, ← List.append_assoc, List.length_append]
    exact getN_put pre suf f z hz.1 hz.2 (okF_iff.1 h.ok)
  have e2 : numP r = (z, { r with at_ := (((pre ++ putN f z).length : Nat) : Int) }) := by
    unfold numP
    rw [h.nb, if_neg (by decide), e, if_pos rfl]
  rw [e2]
  exact ⟨rfl, ⟨by show r.b = _; rw [h.b, List.append_assoc], rfl, h.bad, h.ff, h.ok⟩⟩
theorem left_at (h : r.At f pre suf) : leftP r = suf.length := by
  unfold leftP
  rw [h.nb, if_neg (by decide), h.b, h.at_, List.length_append]; omega
theorem text_at {s : Bytes} (h : r.At f pre (textP f s ++ suf)) (hs : s.length ≤ 1000000) {most : Int} : (s.length ≤ most → (rtextP r most).1 = s ∧ (rtextP r most).2.At f (pre ++ textP f s) suf) ∧ (most < s.length → badP (rtextP r most).2 = true) := by
  have et : textP f s = putN f (s.length : Nat) ++ s := by unfold textP; rw [if_pos h.ok]
  rw [et] at h ⊢
  rw [List.append_assoc] at h
  obtain ⟨a, b⟩ := num_at h ⟨by omega, by omega⟩
  have hl := left_at b
  refine ⟨fun h1 => ?_, fun h1 => ?_⟩
  · have e : textR r most = (numP r).2 := by
      unfold textR
      rw [if_neg (by rw [a, hl, List.length_append]; omega)]
    have e2 : rtextP r most = (((numP r).2.b.take ((numP r).2.at_ + (numP r).1).toNat).drop (numP r).2.at_.toNat, { (numP r).2 with at_ := (numP r).2.at_ + (numP r).1 }) := by
      unfold rtextP
      rw [e, b.nb, if_neg (by decide)]
    rw [e2]
    refine ⟨?_, ⟨?_, ?_, b.bad, b.ff, b.ok⟩⟩
    · show ((numP r).2.b.take ((numP r).2.at_ + (numP r).1).toNat).drop (numP r).2.at_.toNat = s
      rw [b.b, b.at_, a, ← List.append_assoc]
      generalize pre ++ putN f ((s.length : Nat) : Int) = B
      rw [show (((B.length : Nat) : Int) + ((s.length : Nat) : Int)).toNat = (B ++ s).length by rw [List.length_append]; omega, Int.toNat_natCast, List.take_left, List.drop_left]
    · show (numP r).2.b = _
      rw [b.b]; simp only [List.append_assoc]
    show (numP r).2.at_ + (numP r).1 = _
    rw [b.at_, a]; simp only [List.length_append]; omega
  have e : textR r most = spoilP (numP r).2 := by
    unfold textR
    rw [if_pos (by rw [a]; omega)]
  unfold rtextP
  rw [e, if_pos (by rfl)]
  rfl
theorem tag_at {t : TagD} (h : r.At f pre (tagP f t ++ suf)) (h1 : i64R t.rep) (h2 : i64R t.n) : (rtagP r).1 = t ∧ (rtagP r).2.At f (pre ++ tagP f t) suf := by
  unfold tagP at h ⊢
  rw [List.append_assoc] at h
  obtain ⟨a, b⟩ := num_at h h1
  obtain ⟨c, d⟩ := num_at b h2
  rw [List.append_assoc] at d
  unfold rtagP
  rw [d.nb, if_neg (by decide), a, c]
  exact ⟨rfl, d⟩
theorem flag_at {x : Bool} (h : r.At f pre (flagB x ++ suf)) : (rflagP r).1 = x ∧ (rflagP r).2.At f (pre ++ flagB x) suf := by
  have hl := left_at h
  have e : r.b[r.at_.toNat]? = some (if x then 1 else 0) := by
    rw [h.b, h.at_, Int.toNat_natCast]; simp [flagB]
  have hg := flag_good (r := r) (c := if x then 1 else 0) (by rw [hl]; simp [flagB]; omega) e (by cases x <;> decide)
  rw [hg]
  exact ⟨by cases x <;> rfl, ⟨by simp only [h.b, List.append_assoc], by simp only [h.at_, flagB, List.length_append, List.length_cons, List.length_nil]; omega, h.bad, h.ff, h.ok⟩⟩
theorem count_at {n : Nat} (h : r.At f pre (putN f (n : Nat) ++ suf)) (hn : n ≤ 1000000) {most : Int} : ((n : Int) ≤ most → (countP r most).1 = n ∧ (countP r most).2.At f (pre ++ putN f (n : Nat)) suf) ∧ (most < n → badP (countP r most).2 = true) := by
  obtain ⟨a, b⟩ := num_at h ⟨by omega, by omega⟩
  refine ⟨fun h1 => ?_, fun h1 => ?_⟩
  · unfold countP
    rw [if_neg (by rw [a]; omega)]
    exact ⟨a, b⟩
  unfold countP
  rw [if_pos (by rw [a]; omega)]
  rfl
theorem bad_num (h : badP r = true) : numP r = (0, r) := by unfold numP; rw [if_pos h]
theorem bad_text (h : badP r = true) {most : Int} (hm : 0 ≤ most) : rtextP r most = ([], r) := by
  have e : textR r most = r := by
    unfold textR leftP
    rw [bad_num h]
    simp only []
    rw [if_pos h, if_neg (by omega)]
  unfold rtextP
  rw [e, if_pos h]
theorem bad_tag (h : badP r = true) : badP (rtagP r).2 = true := by unfold rtagP; rw [bad_num h]; simp only []; rw [bad_num h, if_pos h]; exact h
theorem bad_flag (h : badP r = true) : badP (rflagP r).2 = true := by
  unfold rflagP leftP
  rw [if_pos h, if_pos (by decide)]
  rfl
theorem bad_count (h : badP r = true) {most : Int} (hm : 0 ≤ most) : badP (countP r most).2 = true := by
  unfold countP
  rw [bad_num h]
  simp only []
  rw [if_neg (by omega)]
  exact h
theorem bad_ref (h : badP r = true) : badP (rrefP r).2 = true := by
  unfold rrefP
  rw [bad_num h]
  simp only []
  rw [bad_text h (by omega)]
  simp only []
  rw [bad_text h (by omega)]
  simp only []
  rw [if_pos h]; exact h
theorem ref_at {x : RefD} (h : r.At f pre (refP f x ++ suf)) (h1 : i64R x.scope) (hg : x.group.length ≤ 1000000) (hn : x.name.length ≤ 1000000) : (x.group.length ≤ 12 ∧ x.name.length ≤ 12 → (rrefP r).1 = x ∧ (rrefP r).2.At f (pre ++ refP f x) suf) ∧ (12 < x.group.length ∨ 12 < x.name.length → badP (rrefP r).2 = true) := by
  unfold refP at h ⊢
  rw [List.append_assoc, List.append_assoc] at h
  obtain ⟨a, b⟩ := num_at h h1
  obtain ⟨c1, c2⟩ := text_at b hg (most := 12)
  have fin : badP (rtextP (rtextP (numP r).2 12).2 12).2 = true → badP (rrefP r).2 = true := fun hb => by
    unfold rrefP
    rw [if_pos hb]; exact hb
  by_cases hg2 : x.group.length ≤ 12
  · obtain ⟨c3, c4⟩ := c1 (by omega)
    obtain ⟨d1, d2⟩ := text_at c4 hn (most := 12)
    refine ⟨fun hx => ?_, fun hx => fin (d2 (by omega))⟩; obtain ⟨d3, d4⟩ := d1 (by omega)
    unfold rrefP
    rw [d4.nb, if_neg (by decide), a, c3, d3]
    rw [List.append_assoc, List.append_assoc] at d4
    rw [List.append_assoc]
    exact ⟨rfl, d4⟩
  refine ⟨fun hx => absurd hx.1 hg2, fun _ => fin ?_⟩
  have := c2 (by omega)
  rw [bad_text this (by omega)]
  exact this
end
end Go.Proofs.Ytlapcfnmmpbeeaa
