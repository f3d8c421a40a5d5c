/- A part of a proof. -/
import Derived.Test.YtlapcfnmmpbeeaaPT43
set_option linter.unusedSimpArgs false
set_option linter.unusedVariables false
namespace Go.Proofs.Ytlapcfnmmpbeeaa
set_option maxRecDepth 100000
open Go.RowKit
theorem getO_no2 {r : RdrD} (h : badP (q12 r) = true ∨ rightO (rawO r) = false) : (getO r).1 = zeroO ∧ badP (getO r).2 = true := by
  unfold getO
  by_cases h1 : badP (q12 r) = true
  · rw [if_pos h1]; exact ⟨rfl, h1⟩
  rw [if_neg h1, if_neg (by rcases h with h | h <;> simp_all)]
  exact ⟨rfl, rfl⟩
section
variable {r : RdrD}
theorem qb11 (h : badP (q11 r) = true) : badP (q12 r) = true := bad_tags h _
theorem qb10 (h : badP (q10 r) = true) : badP (q12 r) = true := qb11 (bad_count h (by omega))
theorem qb9 (h : badP (q9 r) = true) : badP (q12 r) = true := qb10 (badt (by omega) h)
theorem qb8 (h : badP (q8 r) = true) : badP (q12 r) = true := qb9 (bad_flag h)
theorem qb7 (h : badP (q7 r) = true) : badP (q12 r) = true := qb8 (badn h)
theorem qb6 (h : badP (q6 r) = true) : badP (q12 r) = true := qb7 (bad_ref h)
theorem qb5 (h : badP (q5 r) = true) : badP (q12 r) = true := qb6 (badt (by omega) h)
theorem qb4 (h : badP (q4 r) = true) : badP (q12 r) = true := qb5 (badn h)
theorem qb3 (h : badP (q3 r) = true) : badP (q12 r) = true := qb4 (badt (by omega) h)
theorem qb2 (h : badP (q2 r) = true) : badP (q12 r) = true := qb3 (badn h)
theorem qb1 (h : badP (q1 r) = true) : badP (q12 r) = true := qb2 (bad_tag h)
theorem qb0 (h : badP r = true) : badP (q12 r) = true := qb1 (bad_tag h)
theorem bad_getO (h : badP r = true) : badP (getO r).2 = true := (getO_no2 (.inl (qb0 h))).2
theorem getO_okx (h : r.Ok) : r.Of (getO r).2 := by
  unfold getO
  split
  · exact q12_ok h
  split
  · exact q12_ok h
  exact (q12_ok h).trans (q12_ok h).ok.spoil
end
theorem O_at {r : RdrD} {f : Int} {pre suf : List UInt8} {o : OpD} (h0 : r.At f pre (putO f o ++ suf)) (hw : o.Wf) (hr : rightO o = true) : (getO r).1 = o ∧ (getO r).2.At f (pre ++ putO f o) suf := by
  have h0 : r.At f pre (tagP f o.id ++ (tagP f o.schema ++ (putN f o.time ++ (textP f o.cart ++ (putN f o.kind ++ (textP f o.item ++ (refP f o.at_ ++ (putN f o.delta ++ (flagB o.has ++ (textP f o.text ++ (putN f (o.drops.length : Nat) ++ (o.drops.flatMap (tagP f) ++ suf)))))))))))) := by
    have e : putO f o ++ suf = tagP f o.id ++ (tagP f o.schema ++ (putN f o.time ++ (textP f o.cart ++ (putN f o.kind ++ (textP f o.item ++ (refP f o.at_ ++ (putN f o.delta ++ (flagB o.has ++ (textP f o.text ++ (putN f (o.drops.length : Nat) ++ (o.drops.flatMap (tagP f) ++ suf))))))))))) := by
      unfold putO po12 po11 po10 po9 po8 po7 po6 po5 po4 po3 po2 po1
      simp only [List.append_assoc, List.take_length]
    rw [← e]; exact h0
  obtain ⟨g4, g6, g7, g10, g11⟩ := right_read hr
  obtain ⟨v1, h1⟩ := tag_at h0 hw.id1 hw.id2
  obtain ⟨v2, h2⟩ := tag_at h1 hw.sc1 hw.sc2
  obtain ⟨v3, h3⟩ := num_at h2 hw.time
  obtain ⟨v4, h4⟩ := (text_at h3 (by omega) (most := 12)).1 (by omega)
  obtain ⟨v5, h5⟩ := num_at h4 hw.kind
  obtain ⟨v6, h6⟩ := (text_at h5 (by omega) (most := 12)).1 (by omega)
  obtain ⟨v7, h7⟩ := (ref_at h6 hw.scope (by omega) (by omega)).1 g7
  obtain ⟨v8, h8⟩ := num_at h7 hw.delta
  obtain ⟨v9, h9⟩ := flag_at h8
  obtain ⟨v10, h10⟩ := (text_at h9 (by omega) (most := 40)).1 (by omega)
  obtain ⟨v11, h11⟩ := (count_at h10 (by omega) (most := 60)).1 (by omega)
  obtain ⟨v12, h12⟩ := tags_at h11 hw.drops o.drops.length (Nat.le_refl _)
  have en : qn r = o.drops.length := by unfold qn q10; exact (congrArg Int.toNat v11).trans (Int.toNat_natCast _)
  have er : rawO r = o := by
    unfold rawO
    rw [en]
    rw [List.take_length] at v12
    have w1 : (rtagP r).1 = o.id := v1
    have w2 : (rtagP (q1 r)).1 = o.schema := v2
    have w3 : (numP (q2 r)).1 = o.time := v3
    have w4 : (rtextP (q3 r) 12).1 = o.cart := v4
    have w5 : (numP (q4 r)).1 = o.kind := v5
    have w6 : (rtextP (q5 r) 12).1 = o.item := v6
    have w7 : (rrefP (q6 r)).1 = o.at_ := v7
    have w8 : (numP (q7 r)).1 = o.delta := v8
    have w9 : (rflagP (q8 r)).1 = o.has := v9
    have w10 : (rtextP (q9 r) 40).1 = o.text := v10
    have w12 : (tagsP o.drops.length (q11 r)).1 = o.drops := v12
    rw [w1, w2, w3, w4, w5, w6, w7, w8, w9, w10, w12]
  have hq : (q12 r).At f (pre ++ putO f o) suf := by
    have e : (tagsP o.drops.length (q11 r)).2.At f _ _ := h12
    unfold q12
    rw [en]
    rw [List.drop_length, List.flatMap_nil, List.nil_append] at e
    have ep : pre ++ putO f o = pre ++ tagP f o.id ++ tagP f o.schema ++ putN f o.time ++ textP f o.cart ++ putN f o.kind ++ textP f o.item ++ refP f o.at_ ++ putN f o.delta ++ flagB o.has ++ textP f o.text ++ putN f (o.drops.length : Nat) ++ (o.drops.take o.drops.length).flatMap (tagP f) := by
      unfold putO po12 po11 po10 po9 po8 po7 po6 po5 po4 po3 po2 po1
      simp only [List.append_assoc]
    rw [ep]; exact e
  unfold getO
  rw [hq.nb, if_neg (by decide), er, if_pos hr]
  exact ⟨rfl, hq⟩
theorem dtags_sim {b : List UInt8} {f a : Int} (hf : okF f = true) {r : RdrD} (h : RdG b f r (st8 b f a 11)) : ∀ k, ((dst8 b f a k).2.2 = true → (tagsP k r).1 = (dst8 b f a k).1 ∧ RdG b f (tagsP k r).2 (dst8 b f a k).2.1) ∧ ((dst8 b f a k).2.2 = false → badP (tagsP k r).2 = true)
  | 0 => ⟨fun _ => ⟨rfl, h⟩, fun h => (by cases h)⟩
  | k + 1 => by
    obtain ⟨i1, i2⟩ := dtags_sim hf h k
    rw [dst8]
    simp only [Bool.and_eq_true, Bool.and_eq_false_iff]
    cases e : (dst8 b f a k).2.2 with
    | false => exact ⟨fun hh => (by cases hh.1), fun _ => bad_tag (i2 e)⟩
    | true =>
      obtain ⟨v, g⟩ := i1 e
      obtain ⟨j1, j2⟩ := rd_tag hf g
      refine ⟨fun hh => ?_, fun hh => hh.elim (fun h => (by cases h)) j2⟩; obtain ⟨v2, g2⟩ := j1 hh.2; exact ⟨by rw [tagsP, v, v2], g2⟩
def vn (r : RdrD) : Nat → RdrD
  | 0 => r
  | k + 1 => (numP (vn r k)).2
def vrawP (r : RdrD) : V6D := ⟨(numP (vn r 0)).1, (numP (vn r 1)).1, (numP (vn r 2)).1, (numP (vn r 3)).1, (numP (vn r 4)).1, (numP (vn r 5)).1⟩
def rvecP (r : RdrD) : V6D × RdrD := if badP (vn r 6) then (z6, vn r 6) else (vrawP r, vn r 6)
theorem vn_ok {r : RdrD} (h : r.Ok) : ∀ k, r.Of (vn r k)
  | 0 => h.of
  | k + 1 => (vn_ok h k).trans (vn_ok h k).ok.num
theorem rvec_ok {r : RdrD} (h : r.Ok) : r.Of (rvecP r).2 := by
  unfold rvecP
  split <;> exact vn_ok h 6
theorem vec_at {r : RdrD} {f : Int} {pre suf : List UInt8} {v : V6D} (h : r.At f pre (vecP f v ++ suf)) (hw : v.Wf) : (rvecP r).1 = v ∧ (rvecP r).2.At f (pre ++ vecP f v) suf := by
  unfold vecP at h ⊢
  simp only [List.append_assoc] at h
  obtain ⟨a1, h1⟩ := num_at h hw.a
  obtain ⟨a2, h2⟩ := num_at h1 hw.b
  obtain ⟨a3, h3⟩ := num_at h2 hw.c
  obtain ⟨a4, h4⟩ := num_at h3 hw.d
  obtain ⟨a5, h5⟩ := num_at h4 hw.e
  obtain ⟨a6, h6⟩ := num_at h5 hw.f
  have hv : vrawP r = v := by
    have w1 : (numP (vn r 0)).1 = v.a := a1
    have w2 : (numP (vn r 1)).1 = v.b := a2
    have w3 : (numP (vn r 2)).1 = v.c := a3
    have w4 : (numP (vn r 3)).1 = v.d := a4
    have w5 : (numP (vn r 4)).1 = v.e := a5
    have w6 : (numP (vn r 5)).1 = v.f := a6
    unfold vrawP
    rw [w1, w2, w3, w4, w5, w6]
  have h6 : (vn r 6).At f (pre ++ (putN f v.a ++ putN f v.b ++ putN f v.c ++ putN f v.d ++ putN f v.e ++ putN f v.f)) suf := by
    have : (vn r 6).At f (pre ++ putN f v.a ++ putN f v.b ++ putN f v.c ++ putN f v.d ++ putN f v.e ++ putN f v.f) suf := h6
    simpa only [List.append_assoc] using this
  unfold rvecP
  rw [h6.nb, if_neg (by decide), hv]
  exact ⟨rfl, h6⟩
def lstR {α : Type} (get : RdrD → α × RdrD) (r : RdrD) : Nat → List α × RdrD
  | 0 => ([], r)
  | k + 1 => ((lstR get r k).1 ++ [(get (lstR get r k).2).1], (get (lstR get r k).2).2)
def takeN (r : RdrD) (most : Int) : Nat := (countP r most).1.toNat
def takeP {α : Type} (get : RdrD → α × RdrD) (r : RdrD) (most : Int) : List α × RdrD := lstR get (countP r most).2 (takeN r most)
section
variable {α : Type} {get : RdrD → α × RdrD}
theorem lstR_len (r : RdrD) : ∀ k, (lstR get r k).1.length = k
  | 0 => rfl
  | k + 1 => by rw [lstR, List.length_append, lstR_len r k]; rfl
theorem lstR_ok (hg : ∀ r : RdrD, r.Ok → r.Of (get r).2) {r : RdrD} (h : r.Ok) : ∀ k, r.Of (lstR get r k).2
  | 0 => h.of
  | k + 1 => (lstR_ok hg h k).trans (hg _ (lstR_ok hg h k).ok)
theorem bad_lstR (hb : ∀ r, badP r = true → badP (get r).2 = true) {r : RdrD} {k : Nat} (h : badP (lstR get r k).2 = true) : ∀ j, badP (lstR get r (k + j)).2 = true
  | 0 => h
  | j + 1 => hb _ (bad_lstR hb h j)
theorem lstR_at {p : α → List UInt8} {r : RdrD} {f : Int} {pre suf : List UInt8} {l : List α} (hg : ∀ (r : RdrD) (pre suf : List UInt8) (x : α), x ∈ l → r.At f pre (p x ++ suf) → (get r).1 = x ∧ (get r).2.At f (pre ++ p x) suf) (h : r.At f pre (l.flatMap p ++ suf)) : ∀ k, k ≤ l.length → (lstR get r k).1 = l.take k ∧ (lstR get r k).2.At f (pre ++ (l.take k).flatMap p) ((l.drop k).flatMap p ++ suf)
  | 0, _ => ⟨rfl, by simpa [lstR] using h⟩
  | k + 1, hk => by
    obtain ⟨a, b⟩ := lstR_at hg h k (by omega)
    have e : l.take (k + 1) = l.take k ++ [l[k]] := (List.take_append_getElem (by omega)).symm
    rw [List.drop_eq_getElem_cons (by omega), List.flatMap_cons, List.append_assoc] at b
    obtain ⟨c, d⟩ := hg _ _ _ _ (List.getElem_mem _) b
    refine ⟨by rw [lstR, a, c, e], ?_⟩; rw [e, List.flatMap_append]; rw [List.append_assoc] at d
    simpa [lstR] using d
theorem takeP_at {p : α → List UInt8} {r : RdrD} {f : Int} {pre suf : List UInt8} {l : List α} (hg : ∀ (r : RdrD) (pre suf : List UInt8) (x : α), x ∈ l → r.At f pre (p x ++ suf) → (get r).1 = x ∧ (get r).2.At f (pre ++ p x) suf) (h : r.At f pre (putN f (l.length : Nat) ++ (l.flatMap p ++ suf))) (hn : l.length ≤ 1000) {most : Int} (hm : (l.length : Int) ≤ most) : (takeP get r most).1 = l ∧ (takeP get r most).2.At f (pre ++ putN f (l.length : Nat) ++ l.flatMap p) suf := by
  obtain ⟨a, b⟩ := (count_at h (by omega) (most := most)).1 hm
  have en : takeN r most = l.length := by unfold takeN; rw [a]; exact Int.toNat_natCast _
  obtain ⟨c, d⟩ := lstR_at hg b l.length (Nat.le_refl _)
  unfold takeP
  rw [en]
  rw [List.take_length] at c d
  rw [List.drop_length, List.flatMap_nil, List.nil_append] at d
  exact ⟨c, d⟩
end
def smP (z : Int) : Int := if z < 0 ∨ 6 < z then -1 else z
section
variable (r : RdrD)
def o1 : RdrD := (numP r).2
def o2 : RdrD := (numP (o1 r)).2
def o3 : RdrD := (numP (o2 r)).2
def o4 : RdrD := (rvecP (o3 r)).2
def nk : Int := smP (numP r).1
def nfr : Int := smP (numP (o1 r)).1
def noteR : NoteD :=
  if nk r = 1 then ⟨nk r, nfr r, smP (numP (o2 r)).1, (rvecP (o3 r)).1, (takeP rtagP (o4 r) 40).1, [], []⟩
  else if nk r = 2 then ⟨nk r, nfr r, 0, z6, [], (takeP getE (o2 r) 6).1, []⟩
  else if nk r = 3 then ⟨nk r, nfr r, 0, z6, [], [], (takeP getO (o2 r) 6).1⟩
  else if nk r = 4 then ⟨nk r, nfr r, 0, (rvecP (o2 r)).1, [], [], []⟩
  else ⟨nk r, nfr r, 0, z6, [], [], []⟩
def endR : RdrD :=
  if nk r = 1 then (takeP rtagP (o4 r) 40).2
  else if nk r = 2 then (takeP getE (o2 r) 6).2
  else if nk r = 3 then (takeP getO (o2 r) 6).2
  else if nk r = 4 then (rvecP (o2 r)).2
  else o2 r
def okNt : Bool := decide (endP (endR r) = 0) && noteB (noteR r)
end
theorem tag_okx (r : RdrD) (h : r.Ok) : r.Of (rtagP r).2 := h.tag
theorem okNt_bad {r : RdrD} (h : badP (endR r) = true) : okNt r = false := by
  unfold okNt endP
  rw [if_pos (.inl h)]; rfl
theorem note_at {f : Int} {n : NoteD} (hf : okF f = true) (hw : n.Wf) (hn : noteB n = true) : noteR (newR ((bytesN f n).drop 1) f) = n ∧ okNt (newR ((bytesN f n).drop 1) f) = true ∧ (bytesN f n)[0]? = some (fb f) := by
  have hk : nk (newR ((bytesN f n).drop 1) f) = nk (newR ((bytesN f n).drop 1) f) := rfl
  have hfr : 1 ≤ n.from_ ∧ n.from_ ≤ 6 := by
    unfold noteB frB at hn
    simp only [Bool.and_eq_true, decide_eq_true_eq] at hn
    exact hn.1
  have sm : ∀ z : Int, 0 ≤ z → z ≤ 6 → smP z = z := fun z h1 h2 => by unfold smP; rw [if_neg (by omega)]
  have e0 : ∀ l, newR l f = ⟨l, f, 0, false⟩ := fun l => by unfold newR; rw [hf]; rfl
  have at0 : ∀ l, (newR l f).At f [] l := fun l => ⟨rfl, rfl, by rw [e0], rfl, hf⟩
  have fin : ∀ {r : RdrD} {pre : List UInt8}, r.At f pre [] → endP r = 0 := fun {r pre} h => by
    unfold endP
    rw [if_neg]
    rintro (h1 | h1)
    · rw [h.nb] at h1; cases h1
    rw [left_at h] at h1; exact absurd h1 (by simp)
  have head : ∀ rest, bytesN f n = [fb f] ++ (putN f n.kind ++ (putN f n.from_ ++ rest)) → 0 ≤ n.kind ∧ n.kind ≤ 6 → nk (newR ((bytesN f n).drop 1) f) = n.kind ∧ nfr (newR ((bytesN f n).drop 1) f) = n.from_ ∧ (o2 (newR ((bytesN f n).drop 1) f)).At f ([] ++ putN f n.kind ++ putN f n.from_) rest ∧ (bytesN f n)[0]? = some (fb f) := fun rest e hk => by
    have h0 := at0 ((bytesN f n).drop 1)
    generalize newR ((bytesN f n).drop 1) f = r at h0 ⊢
    rw [e] at h0
    have h0 : r.At f [] (putN f n.kind ++ (putN f n.from_ ++ rest)) := h0
    obtain ⟨a, b⟩ := num_at h0 hw.kind
    obtain ⟨c, d⟩ := num_at b hw.from_
    refine ⟨by unfold nk; rw [a]; exact sm _ hk.1 hk.2, by unfold nfr o1; rw [c]; exact sm _ (by omega) hfr.2, d, by rw [e]; rfl⟩
  by_cases h1 : n.kind = 1
  · obtain ⟨q1, q2, q3, q4, q5⟩ := noteB_1 hn h1
    have hb : bytesN f n = [fb f] ++ (putN f n.kind ++ (putN f n.from_ ++ (putN f n.fmt ++ (vecP f n.have_ ++ (putN f (n.tags.length : Nat) ++ (n.tags.flatMap (tagP f) ++ [])))))) := by
      unfold bytesN
      rw [if_pos h1]
      unfold lstP n5 n4 n3 n2
      simp only [List.take_length, List.append_assoc, List.append_nil]
    obtain ⟨a, b, c, d⟩ := head _ hb (by omega)
    generalize newR ((bytesN f n).drop 1) f = r at a b c ⊢
    obtain ⟨v3, c3⟩ := num_at c hw.fmt
    obtain ⟨v4, c4⟩ := vec_at c3 hw.have_
    have hl := risT_read q3
    obtain ⟨v5, c5⟩ := takeP_at (get := rtagP) (fun r pre suf x hx h => tag_at h (hw.tags x hx).1 (hw.tags x hx).2) c4 (by omega) (most := 40) (by omega)
    have er : noteR r = n := by
      unfold noteR
      have w3 : (numP (o2 r)).1 = n.fmt := v3
      have w4 : (rvecP (o3 r)).1 = n.have_ := v4
      have w5 : (takeP rtagP (o4 r) 40).1 = n.tags := v5
      rw [if_pos (a.trans h1), a, b, w3, w4, w5, sm _ (by omega) (by omega)]
      obtain ⟨k, fr, fm, hv, tg, ed, os⟩ := n
      have q4 : ed = [] := q4
      have q5 : os = [] := q5
      subst q4 q5; rfl
    have ee : endR r = (takeP rtagP (o4 r) 40).2 := by unfold endR; rw [if_pos (a.trans h1)]
    refine ⟨er, ?_, d⟩
    unfold okNt
    rw [er, hn, ee, fin (r := (takeP rtagP (o4 r) 40).2) c5]; rfl
  obtain ⟨q1, q2, q3⟩ := noteB_o hn h1
  rcases q3 with ⟨hk, hv, q4, q5⟩ | ⟨hv, ⟨hk, hc, q5⟩ | ⟨hk, hc, q4⟩⟩
  · have hb : bytesN f n = [fb f] ++ (putN f n.kind ++ (putN f n.from_ ++ (vecP f n.have_ ++ []))) := by
      unfold bytesN
      rw [if_neg h1, if_neg (by omega), if_neg (by omega)]
      unfold n3 n2
      simp only [List.append_assoc, List.append_nil]
    obtain ⟨a, b, c, d⟩ := head _ hb (by omega)
    generalize newR ((bytesN f n).drop 1) f = r at a b c ⊢
    obtain ⟨v4, c4⟩ := vec_at c hw.have_
    have er : noteR r = n := by
      unfold noteR
      rw [if_neg (by omega), if_neg (by omega), if_neg (by omega), if_pos (a.trans hk), a, b, v4]
      obtain ⟨k, fr, fm, hv', tg, ed, os⟩ := n
      have q1 : fm = 0 := q1
      have q2 : tg = [] := q2
      have q4 : ed = [] := q4
      have q5 : os = [] := q5
      subst q1 q2 q4 q5; rfl
    have ee : endR r = (rvecP (o2 r)).2 := by unfold endR; rw [if_neg (by omega), if_neg (by omega), if_neg (by omega), if_pos (a.trans hk)]
    refine ⟨er, ?_, d⟩
    unfold okNt
    rw [er, hn, ee, fin c4]; rfl
  · have hb : bytesN f n = [fb f] ++ (putN f n.kind ++ (putN f n.from_ ++ (putN f (n.edges.length : Nat) ++ (n.edges.flatMap (putE f) ++ [])))) := by
      unfold bytesN
      rw [if_neg h1, if_pos hk]
      unfold lstP n3 n2
      simp only [List.take_length, List.append_assoc, List.append_nil]
    obtain ⟨a, b, c, d⟩ := head _ hb (by omega)
    generalize newR ((bytesN f n).drop 1) f = r at a b c ⊢
    obtain ⟨c1, c2⟩ := chB_read hc
    obtain ⟨v5, c5⟩ := takeP_at (get := getE) (fun r pre suf x hx h => E_at h (hw.edges x hx) (rightL_light (edge_lens (c2 x hx))) (c2 x hx)) c (by omega) (most := 6) (by omega)
    have er : noteR r = n := by
      unfold noteR
      rw [if_neg (by omega), if_pos (a.trans hk), a, b, v5]
      obtain ⟨k, fr, fm, hv', tg, ed, os⟩ := n
      have q1 : fm = 0 := q1
      have q2 : tg = [] := q2
      have q6 : hv' = z6 := hv
      have q5 : os = [] := q5
      subst q1 q2 q6 q5; rfl
    have ee : endR r = (takeP getE (o2 r) 6).2 := by unfold endR; rw [if_neg (by omega), if_pos (a.trans hk)]
    refine ⟨er, ?_, d⟩
    unfold okNt
    rw [er, hn, ee, fin c5]; rfl
  have hb : bytesN f n = [fb f] ++ (putN f n.kind ++ (putN f n.from_ ++ (putN f (n.ops.length : Nat) ++ (n.ops.flatMap (putO f) ++ [])))) := by
    unfold bytesN
    rw [if_neg h1, if_neg (by omega), if_pos hk]
    unfold lstP n3 n2
    simp only [List.take_length, List.append_assoc, List.append_nil]
  obtain ⟨a, b, c, d⟩ := head _ hb (by omega)
  generalize newR ((bytesN f n).drop 1) f = r at a b c ⊢
  obtain ⟨c1, c2⟩ := chB_read hc
  obtain ⟨v5, c5⟩ := takeP_at (get := getO) (fun r pre suf x hx h => O_at h (hw.ops x hx) (c2 x hx)) c (by omega) (most := 6) (by omega)
  have er : noteR r = n := by
    unfold noteR
    rw [if_neg (by omega), if_neg (by omega), if_pos (a.trans hk), a, b, v5]
    obtain ⟨k, fr, fm, hv', tg, ed, os⟩ := n
    have q1 : fm = 0 := q1
    have q2 : tg = [] := q2
    have q6 : hv' = z6 := hv
    have q5 : ed = [] := q4
    subst q1 q2 q6 q5; rfl
  have ee : endR r = (takeP getO (o2 r) 6).2 := by unfold endR; rw [if_neg (by omega), if_neg (by omega), if_pos (a.trans hk)]
  refine ⟨er, ?_, d⟩
  unfold okNt
  rw [er, hn, ee, fin c5]; rfl
end Go.Proofs.Ytlapcfnmmpbeeaa
