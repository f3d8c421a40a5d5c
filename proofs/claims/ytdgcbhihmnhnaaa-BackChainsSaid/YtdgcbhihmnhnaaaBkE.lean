/- The schema to which a lens leads, walked over abstract states. Conditions: small. -/
import Derived.Test.YtdgcbhihmnhnaaaBkD
namespace Go.Proofs.Ytdgcbhihmnhnaaa
set_option linter.unusedSimpArgs false
set_option linter.unusedVariables false
set_option maxRecDepth 100000
set_option maxRecDepth 100000
open Go.RowKit

theorem foldW_app : ∀ (a b : List RefD) (l : List FldD), foldW (a ++ b) l = (foldW a l).bind (foldW b)
  | [], b, l => rfl
  | r :: a, b, l => by
    simp only [List.cons_append, foldW]
    split
    · exact foldW_app a b _
    · rfl
theorem foldP_app : ∀ (a b l : List FldD), foldP (a ++ b) l = (foldP a l).bind (foldP b)
  | [], b, l => rfl
  | r :: a, b, l => by
    simp only [List.cons_append, foldP]
    split
    · exact foldP_app a b _
    · rfl
theorem foldW_step {rs : List RefD} {l o : List FldD} {k : Nat} (hk : k < rs.length) (h : foldW (rs.take k) l = some o) : foldW (rs.take (k + 1)) l = if (lessW o rs[k]).2 = 0 then some (lessW o rs[k]).1 else none := by
  rw [← List.take_append_getElem hk, foldW_app, h]
  rfl
theorem foldP_step {rs l o : List FldD} {k : Nat} (hk : k < rs.length) (h : foldP (rs.take k) l = some o) : foldP (rs.take (k + 1)) l = if (withS o rs[k]).2 = 0 then some (withS o rs[k]).1 else none := by
  rw [← List.take_append_getElem hk, foldP_app, h]
  rfl
theorem foldW_no {rs : List RefD} {l o : List FldD} {k : Nat} (hk : k < rs.length) (h : foldW (rs.take k) l = some o) (h2 : ¬ (lessW o rs[k]).2 = 0) : foldW rs l = none := by
  rw [← List.take_append_drop (k + 1) rs, foldW_app, foldW_step hk h, if_neg h2]
  rfl
theorem foldP_no {rs l o : List FldD} {k : Nat} (hk : k < rs.length) (h : foldP (rs.take k) l = some o) (h2 : ¬ (withS o rs[k]).2 = 0) : foldP rs l = none := by
  rw [← List.take_append_drop (k + 1) rs, foldP_app, foldP_step hk h, if_neg h2]
  rfl
theorem right_cases {f : FldD} (h : rightF f = true) : f.cases.length ≤ 1000000 := by
  unfold rightF at h
  rw [Bool.and_eq_true] at h
  have h := h.2
  have e0 : ∀ l : List Bytes, (l == []) = true → l.length ≤ 1000000 := fun l h => by rw [eq_of_beq h]; decide
  split at h
  · simp only [Bool.and_eq_true] at h; exact e0 _ h.1.1.2
  split at h
  · simp only [Bool.and_eq_true] at h; exact e0 _ h.1.2
  split at h
  · simp only [Bool.and_eq_true] at h
    have h1 := h.1.1
    unfold casesB at h1
    simp only [Bool.and_eq_true, decide_eq_true_eq] at h1
    omega
  split at h
  · simp only [Bool.and_eq_true] at h; exact e0 _ h.1.2
  · cases h
theorem right_small {l : List FldD} (h : rightS l = true) : smallS l ∧ l.length ≤ 40 := by
  obtain ⟨a, b, _⟩ := (rightS_iff l).1 h
  exact ⟨⟨by omega, fun f hf => right_cases (b f hf)⟩, by omega⟩
theorem inv_kind {x : LensD} : (arrL [] x) = arrL [] x := rfl
theorem arr_small {l : List FldD} {x : LensD} (hl : smallS l) (hx : x.Small) : ∀ f ∈ (arrL l x).1, f.cases.length ≤ 1000000 := by
  intro f hf
  have h1 := hx.cases; have h3 := hx.back
  unfold arrL at hf
  split at hf
  · simp at hf; rw [hf]; omega
  split at hf
  · simp at hf
  split at hf
  · unfold mergL at hf
    split at hf
    · simp at hf
    split at hf
    · simp at hf
    · simp at hf; rw [hf]; simp [cntF]
  split at hf
  · simp at hf
  rename_i h
  have hm := (find_mem (l := l) (r := x.at_) (by simpa using h)).1
  have hc := hl.2 _ hm
  unfold oneL at hf
  split at hf
  · simp at hf; rcases hf with hf | hf <;> (rw [hf]; simp [cntF])
  split at hf
  · simp at hf; rw [hf]; simp
  split at hf
  · simp at hf; rw [hf]; simp
  split at hf
  · simp at hf; rw [hf]; simpa using h3
  · simp at hf; rw [hf]; exact hc
theorem arr_two (l : List FldD) (x : LensD) : (arrL l x).1.length ≤ 2 := by
  unfold arrL mergL oneL
  repeat' split
  all_goals simp
theorem goes_two (x : LensD) : (goesL x).length ≤ 2 := by
  unfold goesL
  repeat' split
  all_goals simp
theorem apply_no {l : List FldD} {x : LensD} (hl : rightS l = true) (hx : rightL x = true) (h : (arrL l x).2 = false ∨ foldW (goesL x) l = none ∨ ∃ o, foldW (goesL x) l = some o ∧ foldP (arrL l x).1 o = none) : applyL l x = ([], 16) := by
  unfold applyL
  rw [if_neg (by rw [hl, hx]; decide)]
  split
  · rfl
  rename_i q
  rcases h with h | h | ⟨o, h, h'⟩
  · exact absurd h q
  · rw [h]
  · rw [h]; simp only; rw [h']
theorem apply_yes {l o m : List FldD} {x : LensD} (hl : rightS l = true) (hx : rightL x = true) (ha : ¬ (arrL l x).2 = false) (h : foldW (goesL x) l = some o) (h' : foldP (arrL l x).1 o = some m) : applyL l x = (m, 0) := by
  unfold applyL
  rw [if_neg (by rw [hl, hx]; decide), if_neg ha, h]
  simp only
  rw [h']
set_option maxHeartbeats 2000000 in
theorem apply_c (l : List FldD) (x : LensD) (hs : smallS l) (hx : x.Small) : AC Try.prog 23 [.sl (l.map FldD.cs), x.av] (fun r => r = .s (.tu [.sl ((applyL l x).1.map FldD.cs), AI (applyL l x).2])) := by
  have hg2 := goes_two x
  have ha2 := arr_two l x
  change AC _ _ [.sl (l.map FldD.cs), .ag [AI x.kind, AI x.at_.scope, AS x.at_.group, AS x.at_.name, AS x.name, AS x.other, AI x.factor, AI x.field.at_.scope, AS x.field.at_.group, AS x.field.at_.name, AI x.field.kind, AS x.field.dflt, .sl (csS x.field.cases), AI x.field.worth, .sl (x.forth.map PairD.cs), .sl (x.back.map PairD.cs)]] _; refine AC.of' 62 3 Try.func23 rfl ?_; change AW _ _ _ _ [TK.mk 0 .off, TK.mk 0 .off, TK.mk 0 .off]; refine AW.seq ?_; refine AW.region ?_; refine AL.op rfl (AOpB.op (op_box 0 rfl rfl rfl rfl rfl ?_)); refine AL.n ?_; refine AL.ra ?_; refine AL.ra ?_; refine AL.nil ?_; change AW _ _ _ _ _; refine AW.seq ?_; refine AW.seq ?_; refine AW.freebox 3 rfl rfl (Nat.zero_lt_succ _) rfl ?_; refine AW.norm (by simp only [anys, upds, offs, List.set_cons_zero, List.set_cons_succ]; rfl) (by (try simp only [anys, upds, offs, List.set_cons_zero, List.set_cons_succ]); (try rfl)) ?_
  refine AW.region ?_; refine AL.rm ?_; refine AL.op rfl (AOpB.op (op_call (sright_c l) rfl (by kernel_rfl) rfl (none) ?_)); rintro r rfl; refine AL.n ?_; refine AL.r (rd_un rfl rfl (fun _ => rfl)) ?_; refine AL.rm ?_; refine AL.fk (d := 17) rfl (fun h17 => ?_) (fun h17 => ?_)
  ·refine AL.n ?_; refine AL.rf ?_; refine AL.rf ?_; refine AL.rf ?_; refine AL.r (rd_pick_t rfl rfl rfl) ?_; refine AL.nil ?_; change AW _ _ _ _ _; refine AW.cond_t rfl ?_; refine AW.seq ?_; refine AW.region ?_; refine AL.ra ?_; refine AL.ra ?_; refine AL.nil ?_; change AW _ _ _ _ _; refine AW.ret ?_; change ResA _ _ _ _ _; refine res2 rfl (ResV.tmp rfl) rfl (ResV.tmp rfl) rfl ?_
   (have e : applyL l x = ([], 5) := (by unfold applyL; rw [if_pos (by simp_all)])); rw [e]; rfl
  ·refine AL.n ?_; refine AL.ro (rd_loadN_ep rfl ag_50 rfl (Nat.le_of_ble_eq_true rfl) rfl) ?_; refine AL.on rfl rfl rfl (AOpB.op (op_call (lright_c x) rfl (by kernel_rfl) rfl (none) ?_)); rintro r rfl; refine AL.n ?_; refine AL.ro (rd_un rfl rfl (fun _ => rfl)) ?_; refine AL.r (rd_pick_f rfl rfl rfl) ?_; refine AL.nil ?_; change AW _ _ _ _ _; refine AW.cd rfl (fun h21 => ?_) (fun h21 => ?_)
   ·refine AW.seq ?_; refine AW.region ?_; refine AL.ra ?_; refine AL.ra ?_; refine AL.nil ?_; change AW _ _ _ _ _; refine AW.ret ?_; change ResA _ _ _ _ _; refine res2 rfl (ResV.tmp rfl) rfl (ResV.tmp rfl) rfl ?_
    (have e : applyL l x = ([], 5) := (by unfold applyL; rw [if_pos (by simp_all)])); rw [e]; rfl
   ·refine AW.skip ?_; change AW _ _ _ _ _; refine AW.seq ?_; refine AW.region ?_
    (have hl : rightS l = true := by simp_all); (have hr : rightL x = true := by simp_all)
    refine AL.rm ?_; refine AL.r (rd_loadN_ep rfl ag_50 rfl (Nat.le_of_ble_eq_true rfl) rfl) ?_; refine AL.op rfl (AOpB.op (op_call (arr_ok l x hs hx hl hr) rfl (by kernel_rfl) rfl (none) ?_)); rintro r rfl; refine AL.n ?_; refine AL.rm ?_; refine AL.r (rd_extract rfl rfl rfl) ?_; refine AL.r (rd_extract rfl rfl rfl) ?_; refine AL.ra ?_; refine AL.ra ?_; refine AL.nil ?_; change AW _ _ _ _ _; refine AW.seq ?_; refine AW.seq ?_; refine AW.region ?_; refine AL.rm ?_; refine AL.r (rd_un rfl rfl (fun _ => rfl)) ?_; refine AL.nil ?_; change AW _ _ _ _ _; refine AW.cd rfl (fun h29 => ?_) (fun h29 => ?_)
    ·refine AW.seq ?_; refine AW.region ?_; refine AL.ra ?_; refine AL.ra ?_; refine AL.nil ?_; change AW _ _ _ _ _; refine AW.ret ?_; change ResA _ _ _ _ _; refine res2 rfl (ResV.tmp rfl) rfl (ResV.tmp rfl) rfl ?_
     (rw [apply_no hl hr (.inl (by simp_all))]; rfl)
    ·refine AW.skip ?_; change AW _ _ _ _ _; refine AW.seq ?_; refine AW.region ?_; refine AL.rm ?_; refine AL.op rfl (AOpB.op (op_call (sown_c l hs) rfl (by kernel_rfl) rfl (none) ?_)); rintro r rfl; refine AL.n ?_; refine AL.ra ?_; refine AL.nil ?_; change AW _ _ _ _ _; refine AW.seq ?_; refine AW.region ?_; refine AL.ra ?_; refine AL.nil ?_; change AW _ _ _ _ _; refine AW.seq ?_; refine AW.seq ?_; refine AW.region ?_; refine AL.r (rd_loadN_ep rfl ag_50 rfl (Nat.le_of_ble_eq_true rfl) rfl) ?_; refine AL.op rfl (AOpB.op (op_call (goes_c x) rfl (by kernel_rfl) rfl (none) ?_)); rintro r rfl; refine AL.n ?_; refine AL.r (rd_len_sl rfl el_112 rfl) ?_; refine AL.rm ?_; refine AL.nil ?_; change AW _ _ _ _ _; refine AW.block ?_; refine AW.loopM (ι := Nat × List FldD × Int) [4, 5, 11, 36, 37, 38, 39, 40, 41, 42, 43, 44, 45, 46, 47] (fun ⟨k, o, c⟩ => [(35, AI (k : Int)), (8, .sl (o.map FldD.cs)), (9, AI c)]) [1] (fun ⟨k, o, c⟩ => []) (fun ⟨k, o, c⟩ => k ≤ (goesL x).length ∧ foldW ((goesL x).take k) l = some o) (fun ⟨k, o, c⟩ => (goesL x).length - k) ⟨0, l, 0⟩ (⟨Nat.zero_le _, rfl⟩) (by simp only [anys, upds, offs, List.set_cons_zero, List.set_cons_succ]; repeat (first | exact Wk.nil | refine Wk.same ?_ | refine Wk.any ?_)) (by simp only [anys, upds, offs, List.set_cons_zero, List.set_cons_succ]; repeat (first | exact Sk.nil _ | refine Sk.same _ ?_ | refine Sk.scr _ (by decide) ?_)) ?_
     rintro ⟨k, o, c⟩ gs hJ; refine AW.norm (by simp only [anys, upds, offs, List.set_cons_zero, List.set_cons_succ]; rfl) (by (try simp only [anys, upds, offs, List.set_cons_zero, List.set_cons_succ]); (try rfl)) ?_; obtain ⟨hk, hf⟩ := hJ; (have ho := right_small (foldW_ok hl hf).1); refine AW.seq ?_; refine AW.region ?_; refine AL.r (rd_bin rfl rfl rfl (fun _ => rfl)) ?_; refine AL.nil ?_; change AW _ _ _ _ _; refine AW.seq ?_; refine AW.cd rfl (fun h36 => ?_) (fun h36 => ?_)
     ·refine AW.skip ?_; change AW _ _ _ _ _; refine AW.seq ?_; refine AW.block ?_; refine AW.seq ?_; refine AW.region ?_; refine AL.r (rd_iaddr_sl rfl el_112 rfl rfl rfl (get_mapA (by omega)) rfl) ?_; refine AL.r (rd_loadN_ep rfl ag_44 rfl (Nat.le_of_ble_eq_true rfl) rfl) ?_; refine AL.op rfl (AOpB.op (op_alloc 1 rfl ze_44 rfl ?_)); refine AL.n ?_; refine AL.op rfl (op_store_ rfl rfl rfl rfl rfl sz_44 ?_); refine AL.b ?_; refine AL.nil ?_; change AW _ _ _ _ _; refine AW.seq ?_; refine AW.region ?_; refine AL.rm ?_; refine AL.r (rd_loadN_bx rfl ag_44 rfl rfl (Nat.le_of_ble_eq_true rfl) rfl) ?_; refine AL.op rfl (AOpB.op (op_call (without_c o (goesL x)[k] ho.1) rfl (by kernel_rfl) rfl (none) ?_)); rintro r rfl; refine AL.n ?_; refine AL.rm ?_; refine AL.r (rd_extract rfl rfl rfl) ?_; refine AL.r (rd_extract rfl rfl rfl) ?_; refine AL.ra ?_; refine AL.ra ?_; refine AL.nil ?_; change AW _ _ _ _ _
      refine AW.seq ?_; refine AW.region ?_; refine AL.rm ?_; refine AL.r (rd_bin rfl rfl rfl (fun _ => rfl)) ?_; refine AL.nil ?_; change AW _ _ _ _ _; refine AW.cd rfl (fun h46 => ?_) (fun h46 => ?_)
      ·refine AW.seq ?_; refine AW.region ?_; refine AL.ra ?_; refine AL.ra ?_; refine AL.nil ?_; change AW _ _ _ _ _; refine AW.ret ?_; change ResA _ _ _ _ _; refine res2 rfl (ResV.tmp rfl) rfl (ResV.tmp rfl) rfl ?_
       (rw [apply_no hl hr (.inr (.inl (foldW_no (by omega) hf (by assumption))))]; rfl)
      ·refine AW.skip ?_; change AW _ _ _ _ _; refine AW.region ?_; refine AL.r (rd_arith_add rfl rfl rfl (by first | exact IntWalk.i64_in _ (by omega) | rfl)) ?_; refine AL.rm ?_; refine AL.nil ?_; refine ⟨⟨k + 1, (lessW o (goesL x)[k]).1, (lessW o (goesL x)[k]).2⟩, ?_, by first | omega | (simp only []; omega), ?_, ?_⟩
       ·exact ⟨by omega, (foldW_step (by omega) hf).trans (if_pos (by assumption))⟩
       ·simp only [anys, upds, offs, List.set_cons_zero, List.set_cons_succ]; repeat (first | exact Wk.nil | refine Wk.same ?_ | refine Wk.any ?_)
       ·simp only [anys, upds, offs, List.set_cons_zero, List.set_cons_succ]; repeat (first | exact Sk.nil _ | refine Sk.same _ ?_ | refine Sk.scr _ (by decide) ?_)
     ·refine AW.exit ?_; change AW _ _ _ _ _; refine AW.seq ?_; refine AW.seq ?_; refine AW.region ?_; rw [List.take_of_length_le (by omega)] at hf; refine AL.rm ?_; refine AL.r (rd_len_sl rfl el_42 rfl) ?_; refine AL.rm ?_; refine AL.nil ?_; change AW _ _ _ _ _; refine AW.block ?_; refine AW.loopM (ι := Nat × List FldD × Int) [4, 5, 13, 51, 52, 53, 54, 55, 56, 57, 58, 59, 60, 61, 62] (fun ⟨j, m, d⟩ => [(50, AI (j : Int)), (8, .sl (m.map FldD.cs)), (9, AI d)]) [2] (fun ⟨j, m, d⟩ => []) (fun ⟨j, m, d⟩ => j ≤ (arrL l x).1.length ∧ foldP ((arrL l x).1.take j) o = some m) (fun ⟨j, m, d⟩ => (arrL l x).1.length - j) ⟨0, o, c⟩ (⟨Nat.zero_le _, rfl⟩) (by simp only [anys, upds, offs, List.set_cons_zero, List.set_cons_succ]; repeat (first | exact Wk.nil | refine Wk.same ?_ | refine Wk.any ?_)) (by simp only [anys, upds, offs, List.set_cons_zero, List.set_cons_succ]; repeat (first | exact Sk.nil _ | refine Sk.same _ ?_ | refine Sk.scr _ (by decide) ?_)) ?_
      rintro ⟨j, m, d⟩ gs hJ; refine AW.norm (by simp only [anys, upds, offs, List.set_cons_zero, List.set_cons_succ]; rfl) (by (try simp only [anys, upds, offs, List.set_cons_zero, List.set_cons_succ]); (try rfl)) ?_; obtain ⟨hj, hp⟩ := hJ; (have hm := right_small (foldP_ok (foldW_ok hl hf).1 hp).1); refine AW.seq ?_; refine AW.region ?_; refine AL.r (rd_bin rfl rfl rfl (fun _ => rfl)) ?_; refine AL.nil ?_; change AW _ _ _ _ _; refine AW.seq ?_; refine AW.cd rfl (fun h51 => ?_) (fun h51 => ?_)
      ·refine AW.skip ?_; change AW _ _ _ _ _; refine AW.seq ?_; refine AW.block ?_; refine AW.seq ?_; refine AW.region ?_; refine AL.r (rd_iaddr_sl rfl el_42 rfl rfl rfl (get_mapA (by omega)) rfl) ?_; refine AL.r (rd_loadN_ep rfl ag_47 rfl (Nat.le_of_ble_eq_true rfl) rfl) ?_; refine AL.op rfl (AOpB.op (op_alloc 2 rfl ze_47 rfl ?_)); refine AL.n ?_; refine AL.op rfl (op_store_ rfl rfl rfl rfl rfl sz_47 ?_); refine AL.b ?_; refine AL.nil ?_; change AW _ _ _ _ _; refine AW.seq ?_; refine AW.region ?_; refine AL.rm ?_; refine AL.r (rd_loadN_bx rfl ag_47 rfl rfl (Nat.le_of_ble_eq_true rfl) rfl) ?_; refine AL.op rfl (AOpB.op (op_call (with_c m (arrL l x).1[j] hm.1 (arr_small hs hx _ (List.getElem_mem (by omega)))) rfl (by kernel_rfl) rfl (none) ?_)); rintro r rfl; refine AL.n ?_; refine AL.rm ?_; refine AL.r (rd_extract rfl rfl rfl) ?_; refine AL.r (rd_extract rfl rfl rfl) ?_; refine AL.ra ?_
       refine AL.ra ?_; refine AL.nil ?_; change AW _ _ _ _ _; refine AW.seq ?_; refine AW.region ?_; refine AL.rm ?_; refine AL.r (rd_bin rfl rfl rfl (fun _ => rfl)) ?_; refine AL.nil ?_; change AW _ _ _ _ _; refine AW.cd rfl (fun h61 => ?_) (fun h61 => ?_)
       ·refine AW.seq ?_; refine AW.region ?_; refine AL.ra ?_; refine AL.ra ?_; refine AL.nil ?_; change AW _ _ _ _ _; refine AW.ret ?_; change ResA _ _ _ _ _; refine res2 rfl (ResV.tmp rfl) rfl (ResV.tmp rfl) rfl ?_
        (rw [apply_no hl hr (.inr (.inr ⟨o, hf, foldP_no (by omega) hp (by assumption)⟩))]; rfl)
       ·refine AW.skip ?_; change AW _ _ _ _ _; refine AW.region ?_; refine AL.r (rd_arith_add rfl rfl rfl (by first | exact IntWalk.i64_in _ (by omega) | rfl)) ?_; refine AL.rm ?_; refine AL.nil ?_; refine ⟨⟨j + 1, (withS m (arrL l x).1[j]).1, (withS m (arrL l x).1[j]).2⟩, ?_, by first | omega | (simp only []; omega), ?_, ?_⟩
        ·exact ⟨by omega, (foldP_step (by omega) hp).trans (if_pos (by assumption))⟩
        ·simp only [anys, upds, offs, List.set_cons_zero, List.set_cons_succ]; repeat (first | exact Wk.nil | refine Wk.same ?_ | refine Wk.any ?_)
        ·simp only [anys, upds, offs, List.set_cons_zero, List.set_cons_succ]; repeat (first | exact Sk.nil _ | refine Sk.same _ ?_ | refine Sk.scr _ (by decide) ?_)
      ·refine AW.exit ?_; change AW _ _ _ _ _; refine AW.seq ?_; refine AW.region ?_; refine AL.rm ?_; refine AL.ra ?_; refine AL.ra ?_; refine AL.nil ?_; change AW _ _ _ _ _; refine AW.ret ?_; change ResA _ _ _ _ _; refine res2 rfl (ResV.tmp rfl) rfl (ResV.tmp rfl) rfl ?_
       (rw [List.take_of_length_le (by omega)] at hp; rw [apply_yes hl hr (by simp_all) hf hp])
end Go.Proofs.Ytdgcbhihmnhnaaa
