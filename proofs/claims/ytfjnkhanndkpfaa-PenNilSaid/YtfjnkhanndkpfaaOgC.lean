/- An op that is put is got, plain. Conditions: ops of int64 numbers and short texts. -/
import Derived.Test.YtfjnkhanndkpfaaOgB
import Derived.Test.YtfjnkhanndkpfaaPnA
namespace Go.Proofs.Ytfjnkhanndkpfaa
set_option linter.unusedSimpArgs false
set_option linter.unusedVariables false
set_option maxRecDepth 100000
open Go.RowKit

section
variable {r : RdrD} {f : Int} {pre suf : List UInt8}
theorem bad_tags (h : badP r = true) : ∀ n, badP (tagsP n r).2 = true
  | 0 => h
  | n + 1 => bad_tag (bad_tags h n)
theorem tags_at {ds : List TagD} (h : r.At f pre (ds.flatMap (tagP f) ++ suf)) (hd : ∀ t ∈ ds, i64R t.rep ∧ i64R t.n) : ∀ k, k ≤ ds.length → (tagsP k r).1 = ds.take k ∧ (tagsP k r).2.At f (pre ++ (ds.take k).flatMap (tagP f)) ((ds.drop k).flatMap (tagP f) ++ suf)
  | 0, _ => ⟨rfl, by simpa [tagsP] using h⟩
  | k + 1, hk => by
    obtain ⟨a, b⟩ := tags_at h hd k (by omega)
    rw [List.drop_eq_getElem_cons (by omega), List.flatMap_cons, List.append_assoc] at b
    obtain ⟨c, d⟩ := tag_at b (hd _ (List.getElem_mem _)).1 (hd _ (List.getElem_mem _)).2
    have e : ds.take (k + 1) = ds.take k ++ [ds[k]] := (List.take_append_getElem (by omega)).symm
    refine ⟨by rw [tagsP, a, c, e], ?_⟩
    rw [e, List.flatMap_append]
    rw [List.append_assoc] at d
    simpa [tagsP] using d
end
/-- What is right can be read. -/
theorem right_read {o : OpD} (h : rightO o = true) : o.cart.length ≤ 12 ∧ o.item.length ≤ 12 ∧ (o.at_.group.length ≤ 12 ∧ o.at_.name.length ≤ 12) ∧ o.text.length ≤ 40 ∧ o.drops.length ≤ 60 := by
  rw [← right_same] at h
  unfold rightR plainB at h
  have hn := @nameB_len
  have hp := @placeB_len o.at_
  have hs := @placeB_s o.at_
  have e0 : ∀ l : Bytes, l.isEmpty = true → l.length ≤ 12 := fun l h => by rw [List.isEmpty_iff.1 h]; simp
  have hd : dropsB o = true → o.drops.length ≤ 60 := fun h => by
    unfold dropsB at h
    simp only [Bool.and_eq_true, decide_eq_true_eq] at h
    exact h.1
  have e1 : o.text.isEmpty = true → o.text.length ≤ 40 := fun h => by rw [List.isEmpty_iff.1 h]; simp
  have e2 : o.at_ = ⟨0, [], []⟩ → o.at_.group.length ≤ 12 ∧ o.at_.name.length ≤ 12 := fun h => by rw [h]; simp
  grind
theorem get_put {f : Int} {o : OpD} (hf : okF f = true) (hw : o.Wf) (hl : o.Light) (suf : List UInt8) : (rightO o = true → (getO (newR (putO f o ++ suf) f)).1 = o ∧ (getO (newR (putO f o ++ suf) f)).2.At f (putO f o) suf) ∧ (rightO o = false → (getO (newR (putO f o ++ suf) f)).1 = zeroO) := by
  have c1 := hl.cart; have c2 := hl.item; have c3 := hl.group; have c4 := hl.name; have c5 := hl.text; have c6 := hl.drops
  have h0 : (newR (putO f o ++ suf) f).At f [] (tagP f o.id ++ (tagP f o.schema ++ (putN f o.time ++ (textP f o.cart ++ (putN f o.kind ++ (textP f o.item ++ (refP f o.at_ ++ (putN f o.delta ++ (flagB o.has ++ (textP f o.text ++ (putN f (o.drops.length : Nat) ++ (o.drops.flatMap (tagP f) ++ suf)))))))))))) := by
    refine ⟨?_, rfl, by show (!okF f) = false; rw [hf]; rfl, rfl, hf⟩
    show putO f o ++ suf = _
    unfold putO po12 po11 po10 po9 po8 po7 po6 po5 po4 po3 po2 po1
    simp only [List.append_assoc, List.nil_append, List.take_length]
  generalize newR (putO f o ++ suf) f = r at h0 ⊢
  have fail : badP (q12 r) = true → (rightO o = true → False) → (rightO o = true → (getO r).1 = o ∧ (getO r).2.At f (putO f o) suf) ∧ (rightO o = false → (getO r).1 = zeroO) := fun hb hn => ⟨fun h => (hn h).elim, fun _ => by unfold getO; rw [if_pos hb]⟩
  have b11 : badP (q11 r) = true → badP (q12 r) = true := fun h => bad_tags h _
  have b10 : badP (q10 r) = true → badP (q12 r) = true := fun h => b11 (bad_count h (by omega))
  have b9 : badP (q9 r) = true → badP (q12 r) = true := fun h => b10 (by unfold q10; rw [bad_text h (by omega)]; exact h)
  have b8 : badP (q8 r) = true → badP (q12 r) = true := fun h => b9 (bad_flag h)
  have b7 : badP (q7 r) = true → badP (q12 r) = true := fun h => b8 (by unfold q8; rw [bad_num h]; exact h)
  have b6 : badP (q6 r) = true → badP (q12 r) = true := fun h => b7 (bad_ref h)
  have b5 : badP (q5 r) = true → badP (q12 r) = true := fun h => b6 (by unfold q6; rw [bad_text h (by omega)]; exact h)
  have b4 : badP (q4 r) = true → badP (q12 r) = true := fun h => b5 (by unfold q5; rw [bad_num h]; exact h)
  obtain ⟨v1, h1⟩ := tag_at h0 hw.id1 hw.id2
  obtain ⟨v2, h2⟩ := tag_at h1 hw.sc1 hw.sc2
  obtain ⟨v3, h3⟩ := num_at h2 hw.time
  obtain ⟨t4, t4'⟩ := text_at h3 (by omega) (most := 12)
  by_cases g4 : o.cart.length ≤ 12
  case neg => exact fail (b4 (t4' (by omega))) fun h => g4 (right_read h).1
  obtain ⟨v4, h4⟩ := t4 (by omega)
  obtain ⟨v5, h5⟩ := num_at h4 hw.kind
  obtain ⟨t6, t6'⟩ := text_at h5 (by omega) (most := 12)
  by_cases g6 : o.item.length ≤ 12
  case neg => exact fail (b6 (t6' (by omega))) fun h => g6 (right_read h).2.1
  obtain ⟨v6, h6⟩ := t6 (by omega)
  obtain ⟨t7, t7'⟩ := ref_at h6 hw.scope (by omega) (by omega)
  by_cases g7 : o.at_.group.length ≤ 12 ∧ o.at_.name.length ≤ 12
  case neg => exact fail (b7 (t7' (by omega))) fun h => g7 (right_read h).2.2.1
  obtain ⟨v7, h7⟩ := t7 g7
  obtain ⟨v8, h8⟩ := num_at h7 hw.delta
  obtain ⟨v9, h9⟩ := flag_at h8
  obtain ⟨t10, t10'⟩ := text_at h9 (by omega) (most := 40)
  by_cases g10 : o.text.length ≤ 40
  case neg => exact fail (b10 (t10' (by omega))) fun h => g10 (right_read h).2.2.2.1
  obtain ⟨v10, h10⟩ := t10 (by omega)
  obtain ⟨t11, t11'⟩ := count_at h10 (by omega) (most := 60)
  by_cases g11 : o.drops.length ≤ 60
  case neg => exact fail (b11 (t11' (by omega))) fun h => g11 (right_read h).2.2.2.2
  obtain ⟨v11, h11⟩ := t11 (by omega)
  obtain ⟨v12, h12⟩ := tags_at h11 hw.drops o.drops.length (Nat.le_refl _)
  have en : qn r = o.drops.length := by unfold qn q10; exact (congrArg Int.toNat v11).trans (Int.toNat_natCast _)
  have er : rawO r = o := by
    unfold rawO
    rw [en]
    rw [List.take_length] at v12
    have w1 : (rtagP r).1 = o.id := v1
    have w2 : (rtagP (q1 r)).1 = o.schema := v2
    have w3 : (numP (q2 r)).1 = o.time := v3
    have w4 : (rtextP (q3 r) 12).1 = o.cart := v4
    have w5 : (numP (q4 r)).1 = o.kind := v5
    have w6 : (rtextP (q5 r) 12).1 = o.item := v6
    have w7 : (rrefP (q6 r)).1 = o.at_ := v7
    have w8 : (numP (q7 r)).1 = o.delta := v8
    have w9 : (rflagP (q8 r)).1 = o.has := v9
    have w10 : (rtextP (q9 r) 40).1 = o.text := v10
    have w12 : (tagsP o.drops.length (q11 r)).1 = o.drops := v12
    rw [w1, w2, w3, w4, w5, w6, w7, w8, w9, w10, w12]
  have hq : (q12 r).At f (putO f o) suf := by
    have e : (tagsP o.drops.length (q11 r)).2.At f _ _ := h12
    unfold q12
    rw [en]
    rw [List.drop_length, List.flatMap_nil, List.nil_append] at e
    have ep : putO f o = [] ++ tagP f o.id ++ tagP f o.schema ++ putN f o.time ++ textP f o.cart ++ putN f o.kind ++ textP f o.item ++ refP f o.at_ ++ putN f o.delta ++ flagB o.has ++ textP f o.text ++ putN f (o.drops.length : Nat) ++ (o.drops.take o.drops.length).flatMap (tagP f) := by
      unfold putO po12 po11 po10 po9 po8 po7 po6 po5 po4 po3 po2 po1
      rw [List.nil_append]
    rw [ep]; exact e
  unfold getO
  rw [hq.nb, if_neg (by decide), er]
  refine ⟨fun h => ?_, fun h => ?_⟩
  · rw [if_pos h]; exact ⟨rfl, hq⟩
  · rw [if_neg (by rw [h]; decide)]
end Go.Proofs.Ytfjnkhanndkpfaa
