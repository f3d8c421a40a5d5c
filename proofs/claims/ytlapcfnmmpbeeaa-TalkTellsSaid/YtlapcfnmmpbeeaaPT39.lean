/- A part of a proof. -/
import Derived.Test.YtlapcfnmmpbeeaaPT31
import Derived.Test.YtlapcfnmmpbeeaaPT33
set_option linter.unusedSimpArgs false
set_option linter.unusedVariables false
namespace Go.Proofs.Ytlapcfnmmpbeeaa
set_option maxRecDepth 100000
set_option maxRecDepth 100000
open Go.RowKit
def manyB {α : Type} (p : α → Bool) (l : List α) (most : Int) : Bool := decide (most < (l.length : Int)) || l.any p
theorem manyB_f {α : Type} {p : α → Bool} {l : List α} {most : Int} (h : manyB p l most = false) : (l.length : Int) ≤ most ∧ ∀ o ∈ l, p o = false := by
  unfold manyB at h
  simp only [Bool.or_eq_false_iff, decide_eq_false_iff_not, List.any_eq_false] at h
  exact ⟨by omega, fun f hf => by have := h.2 f hf; simpa using this⟩
theorem nheavyos_c (l : List OpD) (most : Int) : AC Try.prog 10 [.sl (l.map OpD.cs), AI most] (fun x => x = .s (AB (manyB heavyO l most))) := by
  refine AC.of' 19 0 Try.func10 rfl ?_; change AW _ _ _ _ []; refine AW.g (AL.ra ?_); refine AL.nil (AW.seq (AW.g (AL.len (x := .tmp 0) rfl (fun hlen => ?_)))); rw [List.length_map] at hlen; unfold maxLen at hlen; refine AL.rm ?_; refine AL.r (lN el_26) ?_; refine AL.rm ?_; refine AL.r qb ?_; refine AL.nil (AW.cd rfl (fun h9 => ?_) (fun h9 => ?_))
  ·refine AW.g (AL.ra ?_); refine AL.nil (AW.ret (r1t ?_))
   (have : manyB heavyO l most = true := by (unfold manyB; rw [decide_eq_true (by omega)]; rfl)); rw [this]
  refine AW.skip (AW.seq (AW.g (AL.ra ?_))); refine AL.nil (AW.block (AW.loopM (ι := Nat) [4, 10, 11, 12, 13, 14, 15, 16, 17, 18, 19, 20] (fun k => [(5, AI (k : Int))]) [] (fun k => []) (fun k => k ≤ l.length ∧ ∀ i (hi : i < l.length), i < k → heavyO l[i] = false) (fun k => l.length - k) 0 (⟨by omega, fun i _ hi => absurd hi (by omega)⟩) wk sk ?_)); rintro k gs hJ; refine AW.nm ?_; obtain ⟨hk, hok⟩ := hJ; refine AW.seq (AW.g ?_); (iterate 2 refine AL.rm ?_); refine AL.r (lN el_26) ?_; refine AL.r qb ?_; refine AL.nil (AW.cd rfl (fun h13 => ?_) (fun h13 => ?_))
  ·refine AW.skip (AW.seq (AW.block (AW.g ?_))); (iterate 2 refine AL.rm ?_); refine AL.r (rd_iaddr_sl rfl el_26 rfl rfl rfl (get_O (by omega)) rfl) ?_; refine AL.r (rd_loadN_ep rfl ag_67 rfl (Nat.le_of_ble_eq_true rfl) rfl) ?_; refine AL.cl (oheavy_c (l[k]'(by omega))) ?_; refine AL.n ?_; refine AL.nil (AW.cd rfl (fun h20 => ?_) (fun h20 => ?_))
   ·refine AW.g (AL.ra ?_); refine AL.nil (AW.ret (r1t ?_))
    (have : manyB heavyO l most = true := by (unfold manyB; rw [any_t (k := k) (by omega) (by simpa using h20)]; simp)); rw [this]
   refine AW.skip ?_; change AW _ _ _ _ _; refine AW.region ?_; refine AL.rm ?_; refine AL.r qA ?_; refine AL.ra ?_; refine AL.nil ?_; refine ⟨k + 1, ?_, by first | omega | (simp only []; omega), ?_, ?_⟩
   ·exact ⟨by omega, all_nextL (p := fun f => heavyO f = false) (by omega) hok (by simpa using h20)⟩
   ·exact wk
   exact sk
  refine AW.exit ?_; change AW _ _ _ _ _; refine AW.g (AL.ra ?_); refine AL.nil (AW.ret (r1t ?_))
  (have : manyB heavyO l most = false := by (unfold manyB; rw [any_f (fun i hi => hok i hi (by omega)), decide_eq_false (by omega)]; rfl)); rw [this]
theorem nheavyes_c (l : List EdgeD) (most : Int) : AC Try.prog 9 [.sl (l.map EdgeD.cs), AI most] (fun x => x = .s (AB (manyB (fun e => heavyL e.lens) l most))) := by
  refine AC.of' 20 0 Try.func9 rfl ?_; change AW _ _ _ _ []; refine AW.g (AL.ra ?_); refine AL.nil (AW.seq (AW.g (AL.len (x := .tmp 0) rfl (fun hlen => ?_)))); rw [List.length_map] at hlen; unfold maxLen at hlen; refine AL.rm ?_; refine AL.r (lN el_25) ?_; refine AL.rm ?_; refine AL.r qb ?_; refine AL.nil (AW.cd rfl (fun h9 => ?_) (fun h9 => ?_))
  ·refine AW.g (AL.ra ?_); refine AL.nil (AW.ret (r1t ?_))
   (have : manyB (fun e => heavyL e.lens) l most = true := by (unfold manyB; rw [decide_eq_true (by omega)]; rfl)); rw [this]
  refine AW.skip (AW.seq (AW.g (AL.ra ?_))); refine AL.nil (AW.block (AW.loopM (ι := Nat) [4, 10, 11, 12, 13, 14, 15, 16, 17, 18, 19, 20, 21] (fun k => [(5, AI (k : Int))]) [] (fun k => []) (fun k => k ≤ l.length ∧ ∀ i (hi : i < l.length), i < k → heavyL l[i].lens = false) (fun k => l.length - k) 0 (⟨by omega, fun i _ hi => absurd hi (by omega)⟩) wk sk ?_)); rintro k gs hJ; refine AW.nm ?_; obtain ⟨hk, hok⟩ := hJ; refine AW.seq (AW.g ?_); (iterate 2 refine AL.rm ?_); refine AL.r (lN el_25) ?_; refine AL.r qb ?_; refine AL.nil (AW.cd rfl (fun h13 => ?_) (fun h13 => ?_))
  ·refine AW.skip (AW.seq (AW.block (AW.g ?_))); (iterate 2 refine AL.rm ?_); refine AL.r (rd_iaddr_sl rfl el_25 rfl rfl rfl (get_E (by omega)) rfl) ?_; refine AL.r (rd_faddr_ep rfl fo_63_2 rfl) ?_; refine AL.r (rd_loadN_ep rfl ag_61 rfl (Nat.le_of_ble_eq_true rfl) rfl) ?_; refine AL.cl (rheavyl_c (l[k]'(by omega)).lens) ?_; refine AL.n ?_; refine AL.nil (AW.cd rfl (fun h21 => ?_) (fun h21 => ?_))
   ·refine AW.g (AL.ra ?_); refine AL.nil (AW.ret (r1t ?_))
    (have : manyB (fun e => heavyL e.lens) l most = true := by (unfold manyB; rw [any_t (k := k) (by omega) (by simpa using h21)]; simp)); rw [this]
   refine AW.skip ?_; change AW _ _ _ _ _; refine AW.region ?_; refine AL.rm ?_; refine AL.r qA ?_; refine AL.ra ?_; refine AL.nil ?_; refine ⟨k + 1, ?_, by first | omega | (simp only []; omega), ?_, ?_⟩
   ·exact ⟨by omega, all_nextL (p := fun f : EdgeD => heavyL f.lens = false) (by omega) hok (by simpa using h21)⟩
   ·exact wk
   exact sk
  refine AW.exit ?_; change AW _ _ _ _ _; refine AW.g (AL.ra ?_); refine AL.nil (AW.ret (r1t ?_))
  (have : manyB (fun e => heavyL e.lens) l most = false := by (unfold manyB; rw [any_f (fun i hi => hok i hi (by omega)), decide_eq_false (by omega)]; rfl)); rw [this]
set_option maxRecDepth 100000
section
variable {r : RdrD} {f : Int} {pre suf : List UInt8}
theorem bad_tags (h : badP r = true) : ∀ n, badP (tagsP n r).2 = true
  | 0 => h
  | n + 1 => bad_tag (bad_tags h n)
theorem tags_at {ds : List TagD} (h : r.At f pre (ds.flatMap (tagP f) ++ suf)) (hd : ∀ t ∈ ds, i64R t.rep ∧ i64R t.n) : ∀ k, k ≤ ds.length → (tagsP k r).1 = ds.take k ∧ (tagsP k r).2.At f (pre ++ (ds.take k).flatMap (tagP f)) ((ds.drop k).flatMap (tagP f) ++ suf)
  | 0, _ => ⟨rfl, by simpa [tagsP] using h⟩
  | k + 1, hk => by
    obtain ⟨a, b⟩ := tags_at h hd k (by omega)
    rw [List.drop_eq_getElem_cons (by omega), List.flatMap_cons, List.append_assoc] at b
    obtain ⟨c, d⟩ := tag_at b (hd _ (List.getElem_mem _)).1 (hd _ (List.getElem_mem _)).2
    have e : ds.take (k + 1) = ds.take k ++ [ds[k]] := (List.take_append_getElem (by omega)).symm
    refine ⟨by rw [tagsP, a, c, e], ?_⟩; rw [e, List.flatMap_append]; rw [List.append_assoc] at d
    simpa [tagsP] using d
end
theorem right_read {o : OpD} (h : rightO o = true) : o.cart.length ≤ 12 ∧ o.item.length ≤ 12 ∧ (o.at_.group.length ≤ 12 ∧ o.at_.name.length ≤ 12) ∧ o.text.length ≤ 40 ∧ o.drops.length ≤ 60 := by
  rw [← right_same] at h
  unfold rightR plainB at h
  have hn := @nameB_len
  have hp := @placeB_len o.at_
  have hs := @placeB_s o.at_
  have e0 : ∀ l : Bytes, l.isEmpty = true → l.length ≤ 12 := fun l h => by rw [List.isEmpty_iff.1 h]; simp
  have hd : dropsB o = true → o.drops.length ≤ 60 := fun h => by
    unfold dropsB at h
    simp only [Bool.and_eq_true, decide_eq_true_eq] at h
    exact h.1
  have e1 : o.text.isEmpty = true → o.text.length ≤ 40 := fun h => by rw [List.isEmpty_iff.1 h]; simp
  have e2 : o.at_ = ⟨0, [], []⟩ → o.at_.group.length ≤ 12 ∧ o.at_.name.length ≤ 12 := fun h => by rw [h]; simp
  grind
end Go.Proofs.Ytlapcfnmmpbeeaa
