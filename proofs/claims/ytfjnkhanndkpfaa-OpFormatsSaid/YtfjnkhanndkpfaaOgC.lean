/- An op that is put is got, plain. Conditions: ops of int64 numbers and short texts. -/
import Derived.Test.YtfjnkhanndkpfaaOgB
import Derived.Test.YtfjnkhanndkpfaaCodeJ
namespace Go.Proofs.Ytfjnkhanndkpfaa
set_option linter.unusedSimpArgs false
set_option linter.unusedVariables false
set_option maxRecDepth 100000
open Go.RowKit

structure RdrD.At (r : RdrD) (f : Int) (pre suf : List UInt8) : Prop where
  b : r.b = pre ++ suf
  at_ : r.at_ = (pre.length : Nat)
  bad : r.bad = false
  ff : r.f = f
  ok : okF f = true
section
variable {r : RdrD} {f : Int} {pre suf : List UInt8}
theorem RdrD.At.nb (h : r.At f pre suf) : badP r = false := by unfold badP; rw [h.bad, h.ff, h.ok]; rfl
theorem num_at {z : Int} (h : r.At f pre (putN f z ++ suf)) (hz : i64R z) : (numP r).1 = z ∧ (numP r).2.At f (pre ++ putN f z) suf := by
  have e : getN r.b r.at_ r.f = (z, (((pre ++ putN f z).length : Nat) : Int), 0) := by
    rw [h.b, h.at_, h.ff, ← List.append_assoc, List.length_append]
    exact getN_put pre suf f z hz.1 hz.2 (okF_iff.1 h.ok)
  have e2 : numP r = (z, { r with at_ := (((pre ++ putN f z).length : Nat) : Int) }) := by
    unfold numP
    rw [h.nb, if_neg (by decide), e, if_pos rfl]
  rw [e2]
  exact ⟨rfl, ⟨by show r.b = _; rw [h.b, List.append_assoc], rfl, h.bad, h.ff, h.ok⟩⟩
theorem left_at (h : r.At f pre suf) : leftP r = suf.length := by
  unfold leftP
  rw [h.nb, if_neg (by decide), h.b, h.at_, List.length_append]; omega
theorem text_at {s : Bytes} (h : r.At f pre (textP f s ++ suf)) (hs : s.length ≤ 1000000) {most : Int} : (s.length ≤ most → (rtextP r most).1 = s ∧ (rtextP r most).2.At f (pre ++ textP f s) suf) ∧ (most < s.length → badP (rtextP r most).2 = true) := by
  have et : textP f s = putN f (s.length : Nat) ++ s := by unfold textP; rw [if_pos h.ok]
  rw [et] at h ⊢
  rw [List.append_assoc] at h
  obtain ⟨a, b⟩ := num_at h ⟨by omega, by omega⟩
  have hl := left_at b
  refine ⟨fun h1 => ?_, fun h1 => ?_⟩
  · have e : textR r most = (numP r).2 := by
      unfold textR
      rw [if_neg (by rw [a, hl, List.length_append]; omega)]
    have e2 : rtextP r most = (((numP r).2.b.take ((numP r).2.at_ + (numP r).1).toNat).drop (numP r).2.at_.toNat, { (numP r).2 with at_ := (numP r).2.at_ + (numP r).1 }) := by
      unfold rtextP
      rw [e, b.nb, if_neg (by decide)]
    rw [e2]
    refine ⟨?_, ⟨?_, ?_, b.bad, b.ff, b.ok⟩⟩
    · show ((numP r).2.b.take ((numP r).2.at_ + (numP r).1).toNat).drop (numP r).2.at_.toNat = s
      rw [b.b, b.at_, a, ← List.append_assoc]
      generalize pre ++ putN f ((s.length : Nat) : Int) = B
      rw [show (((B.length : Nat) : Int) + ((s.length : Nat) : Int)).toNat = (B ++ s).length by rw [List.length_append]; omega, Int.toNat_natCast, List.take_left, List.drop_left]
    · show (numP r).2.b = _
      rw [b.b]; simp only [List.append_assoc]
    · show (numP r).2.at_ + (numP r).1 = _
      rw [b.at_, a]; simp only [List.length_append]; omega
  · have e : textR r most = spoilP (numP r).2 := by
      unfold textR
      rw [if_pos (by rw [a]; omega)]
    unfold rtextP
    rw [e, if_pos (by rfl)]
    rfl
theorem tag_at {t : TagD} (h : r.At f pre (tagP f t ++ suf)) (h1 : i64R t.rep) (h2 : i64R t.n) : (rtagP r).1 = t ∧ (rtagP r).2.At f (pre ++ tagP f t) suf := by
  unfold tagP at h ⊢
  rw [List.append_assoc] at h
  obtain ⟨a, b⟩ := num_at h h1
  obtain ⟨c, d⟩ := num_at b h2
  rw [List.append_assoc] at d
  unfold rtagP
  rw [d.nb, if_neg (by decide), a, c]
  exact ⟨rfl, d⟩
theorem flag_at {x : Bool} (h : r.At f pre (flagB x ++ suf)) : (rflagP r).1 = x ∧ (rflagP r).2.At f (pre ++ flagB x) suf := by
  have hl := left_at h
  have e : r.b[r.at_.toNat]? = some (if x then 1 else 0) := by
    rw [h.b, h.at_, Int.toNat_natCast]; simp [flagB]
  have hg := flag_good (r := r) (c := if x then 1 else 0) (by rw [hl]; simp [flagB]; omega) e (by cases x <;> decide)
  rw [hg]
  exact ⟨by cases x <;> rfl, ⟨by simp only [h.b, List.append_assoc], by simp only [h.at_, flagB, List.length_append, List.length_cons, List.length_nil]; omega, h.bad, h.ff, h.ok⟩⟩
theorem count_at {n : Nat} (h : r.At f pre (putN f (n : Nat) ++ suf)) (hn : n ≤ 1000000) {most : Int} : ((n : Int) ≤ most → (countP r most).1 = n ∧ (countP r most).2.At f (pre ++ putN f (n : Nat)) suf) ∧ (most < n → badP (countP r most).2 = true) := by
  obtain ⟨a, b⟩ := num_at h ⟨by omega, by omega⟩
  refine ⟨fun h1 => ?_, fun h1 => ?_⟩
  · unfold countP
    rw [if_neg (by rw [a]; omega)]
    exact ⟨a, b⟩
  · unfold countP
    rw [if_pos (by rw [a]; omega)]
    rfl
theorem bad_num (h : badP r = true) : numP r = (0, r) := by unfold numP; rw [if_pos h]
theorem bad_text (h : badP r = true) {most : Int} (hm : 0 ≤ most) : rtextP r most = ([], r) := by
  have e : textR r most = r := by
    unfold textR leftP
    rw [bad_num h]
    simp only []
    rw [if_pos h, if_neg (by omega)]
  unfold rtextP
  rw [e, if_pos h]
theorem bad_tag (h : badP r = true) : badP (rtagP r).2 = true := by unfold rtagP; rw [bad_num h]; simp only []; rw [bad_num h, if_pos h]; exact h
theorem bad_flag (h : badP r = true) : badP (rflagP r).2 = true := by
  unfold rflagP leftP
  rw [if_pos h, if_pos (by decide)]
  rfl
theorem bad_count (h : badP r = true) {most : Int} (hm : 0 ≤ most) : badP (countP r most).2 = true := by
  unfold countP
  rw [bad_num h]
  simp only []
  rw [if_neg (by omega)]
  exact h
theorem bad_ref (h : badP r = true) : badP (rrefP r).2 = true := by
  unfold rrefP
  rw [bad_num h]
  simp only []
  rw [bad_text h (by omega)]
  simp only []
  rw [bad_text h (by omega)]
  simp only []
  rw [if_pos h]; exact h
theorem bad_tags (h : badP r = true) : ∀ n, badP (tagsP n r).2 = true
  | 0 => h
  | n + 1 => bad_tag (bad_tags h n)
theorem ref_at {x : RefD} (h : r.At f pre (refP f x ++ suf)) (h1 : i64R x.scope) (hg : x.group.length ≤ 1000000) (hn : x.name.length ≤ 1000000) : (x.group.length ≤ 12 ∧ x.name.length ≤ 12 → (rrefP r).1 = x ∧ (rrefP r).2.At f (pre ++ refP f x) suf) ∧ (12 < x.group.length ∨ 12 < x.name.length → badP (rrefP r).2 = true) := by
  unfold refP at h ⊢
  rw [List.append_assoc, List.append_assoc] at h
  obtain ⟨a, b⟩ := num_at h h1
  obtain ⟨c1, c2⟩ := text_at b hg (most := 12)
  have fin : badP (rtextP (rtextP (numP r).2 12).2 12).2 = true → badP (rrefP r).2 = true := fun hb => by
    unfold rrefP
    rw [if_pos hb]; exact hb
  by_cases hg2 : x.group.length ≤ 12
  · obtain ⟨c3, c4⟩ := c1 (by omega)
    obtain ⟨d1, d2⟩ := text_at c4 hn (most := 12)
    refine ⟨fun hx => ?_, fun hx => fin (d2 (by omega))⟩
    obtain ⟨d3, d4⟩ := d1 (by omega)
    unfold rrefP
    rw [d4.nb, if_neg (by decide), a, c3, d3]
    rw [List.append_assoc, List.append_assoc] at d4
    rw [List.append_assoc]
    exact ⟨rfl, d4⟩
  · refine ⟨fun hx => absurd hx.1 hg2, fun _ => fin ?_⟩
    have := c2 (by omega)
    rw [bad_text this (by omega)]
    exact this
theorem tags_at {ds : List TagD} (h : r.At f pre (ds.flatMap (tagP f) ++ suf)) (hd : ∀ t ∈ ds, i64R t.rep ∧ i64R t.n) : ∀ k, k ≤ ds.length → (tagsP k r).1 = ds.take k ∧ (tagsP k r).2.At f (pre ++ (ds.take k).flatMap (tagP f)) ((ds.drop k).flatMap (tagP f) ++ suf)
  | 0, _ => ⟨rfl, by simpa [tagsP] using h⟩
  | k + 1, hk => by
    obtain ⟨a, b⟩ := tags_at h hd k (by omega)
    rw [List.drop_eq_getElem_cons (by omega), List.flatMap_cons, List.append_assoc] at b
    obtain ⟨c, d⟩ := tag_at b (hd _ (List.getElem_mem _)).1 (hd _ (List.getElem_mem _)).2
    have e : ds.take (k + 1) = ds.take k ++ [ds[k]] := (List.take_append_getElem (by omega)).symm
    refine ⟨by rw [tagsP, a, c, e], ?_⟩
    rw [e, List.flatMap_append]
    rw [List.append_assoc] at d
    simpa [tagsP] using d
end
theorem nameB_len {s : Bytes} (h : nameB s = true) : s.length ≤ 12 := by
  unfold nameB at h
  simp only [Bool.and_eq_true, decide_eq_true_eq] at h
  exact h.1.2
theorem placeB_len {r : RefD} (h : placeB r = true) : r.group.length ≤ 12 ∧ r.name.length ≤ 12 := by
  unfold placeB at h
  simp only [Bool.and_eq_true, Bool.or_eq_true, beq_iff_eq] at h
  refine ⟨?_, nameB_len h.1.2⟩
  rcases h.2 with h | h
  · rw [h]; simp
  · exact nameB_len h
/-- What is right can be read. -/
theorem right_read {o : OpD} (h : rightO o = true) : o.cart.length ≤ 12 ∧ o.item.length ≤ 12 ∧ (o.at_.group.length ≤ 12 ∧ o.at_.name.length ≤ 12) ∧ o.text.length ≤ 40 ∧ o.drops.length ≤ 60 := by
  rw [← right_same] at h
  unfold rightR plainB at h
  have hn := @nameB_len
  have hp := @placeB_len o.at_
  have hs := @placeB_s o.at_
  have e0 : ∀ l : Bytes, l.isEmpty = true → l.length ≤ 12 := fun l h => by rw [List.isEmpty_iff.1 h]; simp
  have hd : dropsB o = true → o.drops.length ≤ 60 := fun h => by
    unfold dropsB at h
    simp only [Bool.and_eq_true, decide_eq_true_eq] at h
    exact h.1
  have e1 : o.text.isEmpty = true → o.text.length ≤ 40 := fun h => by rw [List.isEmpty_iff.1 h]; simp
  have e2 : o.at_ = ⟨0, [], []⟩ → o.at_.group.length ≤ 12 ∧ o.at_.name.length ≤ 12 := fun h => by rw [h]; simp
  grind
theorem get_put {f : Int} {o : OpD} (hf : okF f = true) (hw : o.Wf) (hl : o.Light) (suf : List UInt8) : (rightO o = true → (getO (newR (putO f o ++ suf) f)).1 = o ∧ (getO (newR (putO f o ++ suf) f)).2.At f (putO f o) suf) ∧ (rightO o = false → (getO (newR (putO f o ++ suf) f)).1 = zeroO) := by
  have c1 := hl.cart; have c2 := hl.item; have c3 := hl.group; have c4 := hl.name; have c5 := hl.text; have c6 := hl.drops
  have h0 : (newR (putO f o ++ suf) f).At f [] (tagP f o.id ++ (tagP f o.schema ++ (putN f o.time ++ (textP f o.cart ++ (putN f o.kind ++ (textP f o.item ++ (refP f o.at_ ++ (putN f o.delta ++ (flagB o.has ++ (textP f o.text ++ (putN f (o.drops.length : Nat) ++ (o.drops.flatMap (tagP f) ++ suf)))))))))))) := by
    refine ⟨?_, rfl, by show (!okF f) = false; rw [hf]; rfl, rfl, hf⟩
    show putO f o ++ suf = _
    unfold putO po12 po11 po10 po9 po8 po7 po6 po5 po4 po3 po2 po1
    simp only [List.append_assoc, List.nil_append, List.take_length]
  generalize newR (putO f o ++ suf) f = r at h0 ⊢
  have fail : badP (q12 r) = true → (rightO o = true → False) → (rightO o = true → (getO r).1 = o ∧ (getO r).2.At f (putO f o) suf) ∧ (rightO o = false → (getO r).1 = zeroO) := fun hb hn => ⟨fun h => (hn h).elim, fun _ => by unfold getO; rw [if_pos hb]⟩
  have b11 : badP (q11 r) = true → badP (q12 r) = true := fun h => bad_tags h _
  have b10 : badP (q10 r) = true → badP (q12 r) = true := fun h => b11 (bad_count h (by omega))
  have b9 : badP (q9 r) = true → badP (q12 r) = true := fun h => b10 (by unfold q10; rw [bad_text h (by omega)]; exact h)
  have b8 : badP (q8 r) = true → badP (q12 r) = true := fun h => b9 (bad_flag h)
  have b7 : badP (q7 r) = true → badP (q12 r) = true := fun h => b8 (by unfold q8; rw [bad_num h]; exact h)
  have b6 : badP (q6 r) = true → badP (q12 r) = true := fun h => b7 (bad_ref h)
  have b5 : badP (q5 r) = true → badP (q12 r) = true := fun h => b6 (by unfold q6; rw [bad_text h (by omega)]; exact h)
  have b4 : badP (q4 r) = true → badP (q12 r) = true := fun h => b5 (by unfold q5; rw [bad_num h]; exact h)
  obtain ⟨v1, h1⟩ := tag_at h0 hw.id1 hw.id2
  obtain ⟨v2, h2⟩ := tag_at h1 hw.sc1 hw.sc2
  obtain ⟨v3, h3⟩ := num_at h2 hw.time
  obtain ⟨t4, t4'⟩ := text_at h3 (by omega) (most := 12)
  by_cases g4 : o.cart.length ≤ 12
  case neg => exact fail (b4 (t4' (by omega))) fun h => g4 (right_read h).1
  obtain ⟨v4, h4⟩ := t4 (by omega)
  obtain ⟨v5, h5⟩ := num_at h4 hw.kind
  obtain ⟨t6, t6'⟩ := text_at h5 (by omega) (most := 12)
  by_cases g6 : o.item.length ≤ 12
  case neg => exact fail (b6 (t6' (by omega))) fun h => g6 (right_read h).2.1
  obtain ⟨v6, h6⟩ := t6 (by omega)
  obtain ⟨t7, t7'⟩ := ref_at h6 hw.scope (by omega) (by omega)
  by_cases g7 : o.at_.group.length ≤ 12 ∧ o.at_.name.length ≤ 12
  case neg => exact fail (b7 (t7' (by omega))) fun h => g7 (right_read h).2.2.1
  obtain ⟨v7, h7⟩ := t7 g7
  obtain ⟨v8, h8⟩ := num_at h7 hw.delta
  obtain ⟨v9, h9⟩ := flag_at h8
  obtain ⟨t10, t10'⟩ := text_at h9 (by omega) (most := 40)
  by_cases g10 : o.text.length ≤ 40
  case neg => exact fail (b10 (t10' (by omega))) fun h => g10 (right_read h).2.2.2.1
  obtain ⟨v10, h10⟩ := t10 (by omega)
  obtain ⟨t11, t11'⟩ := count_at h10 (by omega) (most := 60)
  by_cases g11 : o.drops.length ≤ 60
  case neg => exact fail (b11 (t11' (by omega))) fun h => g11 (right_read h).2.2.2.2
  obtain ⟨v11, h11⟩ := t11 (by omega)
  obtain ⟨v12, h12⟩ := tags_at h11 hw.drops o.drops.length (Nat.le_refl _)
  have en : qn r = o.drops.length := by unfold qn q10; exact (congrArg Int.toNat v11).trans (Int.toNat_natCast _)
  have er : rawO r = o := by
    unfold rawO
    rw [en]
    rw [List.take_length] at v12
    have w1 : (rtagP r).1 = o.id := v1
    have w2 : (rtagP (q1 r)).1 = o.schema := v2
    have w3 : (numP (q2 r)).1 = o.time := v3
    have w4 : (rtextP (q3 r) 12).1 = o.cart := v4
    have w5 : (numP (q4 r)).1 = o.kind := v5
    have w6 : (rtextP (q5 r) 12).1 = o.item := v6
    have w7 : (rrefP (q6 r)).1 = o.at_ := v7
    have w8 : (numP (q7 r)).1 = o.delta := v8
    have w9 : (rflagP (q8 r)).1 = o.has := v9
    have w10 : (rtextP (q9 r) 40).1 = o.text := v10
    have w12 : (tagsP o.drops.length (q11 r)).1 = o.drops := v12
    rw [w1, w2, w3, w4, w5, w6, w7, w8, w9, w10, w12]
  have hq : (q12 r).At f (putO f o) suf := by
    have e : (tagsP o.drops.length (q11 r)).2.At f _ _ := h12
    unfold q12
    rw [en]
    rw [List.drop_length, List.flatMap_nil, List.nil_append] at e
    have ep : putO f o = [] ++ tagP f o.id ++ tagP f o.schema ++ putN f o.time ++ textP f o.cart ++ putN f o.kind ++ textP f o.item ++ refP f o.at_ ++ putN f o.delta ++ flagB o.has ++ textP f o.text ++ putN f (o.drops.length : Nat) ++ (o.drops.take o.drops.length).flatMap (tagP f) := by
      unfold putO po12 po11 po10 po9 po8 po7 po6 po5 po4 po3 po2 po1
      rw [List.nil_append]
    rw [ep]; exact e
  unfold getO
  rw [hq.nb, if_neg (by decide), er]
  refine ⟨fun h => ?_, fun h => ?_⟩
  · rw [if_pos h]; exact ⟨rfl, hq⟩
  · rw [if_neg (by rw [h]; decide)]
end Go.Proofs.Ytfjnkhanndkpfaa
