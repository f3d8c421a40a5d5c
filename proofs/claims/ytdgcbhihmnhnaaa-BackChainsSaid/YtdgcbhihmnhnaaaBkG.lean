/- Rows of lenses: where a row leads, plain and walked. -/
import Derived.Test.YtdgcbhihmnhnaaaBkF
namespace Go.Proofs.Ytdgcbhihmnhnaaa
set_option linter.unusedSimpArgs false
set_option linter.unusedVariables false
set_option maxRecDepth 100000
set_option maxRecDepth 100000
open Go.RowKit Go.ChangeShapes Go.WideShapes Go.ChangeAt Go.Deep

def chG : List LensD → List FldD → Nat → List FldD × Nat × Int
  | [], l, i => (l, i, 0)
  | x :: xs, l, i => if (applyL l x).2 = 0 then chG xs (applyL l x).1 (i + 1) else ([], i, (applyL l x).2)
def chainL (l : List FldD) (row : List LensD) : List FldD × Nat × Int := if rightS l = true then chG row l 0 else ([], 0, 5)
theorem chG_app : ∀ (a b : List LensD) (l : List FldD) (i : Nat), chG (a ++ b) l i = if (chG a l i).2.2 = 0 then chG b (chG a l i).1 (chG a l i).2.1 else ([], (chG a l i).2.1, (chG a l i).2.2)
  | [], b, l, i => by simp [chG]
  | x :: a, b, l, i => by
    by_cases h : (applyL l x).2 = 0
    · simp only [List.cons_append, chG, if_pos h]; exact chG_app a b _ _
    · simp only [List.cons_append, chG, if_neg h]
theorem chG_ok : ∀ {a : List LensD} {l : List FldD} {i : Nat}, (chG a l i).2.2 = 0 → (chG a l i).2.1 = i + a.length
  | [], l, i, _ => rfl
  | x :: a, l, i, h => by
    unfold chG at h ⊢
    split at h
    · rename_i q; rw [if_pos q, chG_ok h, List.length_cons]; omega
    · rename_i q; exact absurd h q
theorem chG_le : ∀ (a : List LensD) (l : List FldD) (i : Nat), (chG a l i).2.1 ≤ i + a.length
  | [], l, i => Nat.le_refl _
  | x :: a, l, i => by
    unfold chG
    split
    · have := chG_le a (applyL l x).1 (i + 1); simp; omega
    · simp
theorem chG_no : ∀ {a : List LensD} {l : List FldD} {i : Nat}, (chG a l i).2.2 ≠ 0 → (chG a l i).1 = []
  | [], l, i, h => absurd rfl h
  | x :: a, l, i, h => by
    unfold chG at h ⊢
    split at h
    · rename_i q; rw [if_pos q]; exact chG_no h
    · rename_i q; rw [if_neg q]
theorem chG_shift : ∀ (a : List LensD) (l : List FldD) (i j : Nat), chG a l (i + j) = ((chG a l j).1, i + (chG a l j).2.1, (chG a l j).2.2)
  | [], l, i, j => rfl
  | x :: a, l, i, j => by
    unfold chG
    split
    · rw [Nat.add_assoc]; exact chG_shift a _ i (j + 1)
    · rfl
theorem apply_right {l : List FldD} {x : LensD} (h : (applyL l x).2 = 0) : rightS (applyL l x).1 = true := (app_of h).right
theorem chG_right : ∀ {a : List LensD} {l : List FldD} {i : Nat}, rightS l = true → (chG a l i).2.2 = 0 → rightS (chG a l i).1 = true
  | [], l, i, hl, _ => hl
  | x :: a, l, i, hl, h => by
    unfold chG at h ⊢
    split at h
    · rename_i q; rw [if_pos q]; exact chG_right (apply_right q) h
    · rename_i q; exact absurd h q
theorem chG_step {row : List LensD} {l m : List FldD} {k : Nat} (hk : k < row.length) (h : chG (row.take k) l 0 = (m, k, 0)) (h2 : (applyL m row[k]).2 = 0) : chG (row.take (k + 1)) l 0 = ((applyL m row[k]).1, k + 1, 0) := by
  rw [← List.take_append_getElem hk, chG_app, h]
  simp [chG, h2]
theorem chG_fail {row : List LensD} {l m : List FldD} {k : Nat} (hk : k < row.length) (h : chG (row.take k) l 0 = (m, k, 0)) (h2 : ¬ (applyL m row[k]).2 = 0) : chG row l 0 = ([], k, (applyL m row[k]).2) := by
  obtain ⟨x, hx⟩ : ∃ x, x = row[k] := ⟨_, rfl⟩
  rw [← hx] at h2 ⊢
  have e : row = row.take k ++ x :: row.drop (k + 1) := by rw [hx, ← List.drop_eq_getElem_cons hk, List.take_append_drop]
  rw [e, chG_app, h]
  simp [chG, h2]
theorem chain_cut {l : List FldD} {row : List LensD} (n : Nat) (hn : n ≤ row.length) : ((chainL l (row.take n)).2.2 ≠ 0 → chainL l row = ([], (chainL l (row.take n)).2.1, (chainL l (row.take n)).2.2) ∧ (chainL l (row.take n)).1 = []) ∧ ((chainL l (row.take n)).2.2 = 0 → (chainL l (row.take n)).2.1 = n ∧ rightS (chainL l (row.take n)).1 = true ∧ chainL l row = ((chainL (chainL l (row.take n)).1 (row.drop n)).1, n + (chainL (chainL l (row.take n)).1 (row.drop n)).2.1, (chainL (chainL l (row.take n)).1 (row.drop n)).2.2)) := by
  by_cases hl : rightS l = true
  · have e : chainL l row = chG (row.take n ++ row.drop n) l 0 := by rw [List.take_append_drop]; exact if_pos hl
    have e1 : chainL l (row.take n) = chG (row.take n) l 0 := if_pos hl
    rw [e, e1, chG_app]
    refine ⟨fun h => ⟨if_neg h, chG_no h⟩, fun h => ?_⟩
    have hr := chG_right hl h
    have hk := chG_ok h
    rw [List.length_take, Nat.min_eq_left hn, Nat.zero_add] at hk
    refine ⟨hk, hr, ?_⟩; rw [if_pos h, hk]
    have := chG_shift (row.drop n) (chG (row.take n) l 0).1 n 0
    rw [Nat.add_zero] at this
    rw [this]
    unfold chainL
    rw [if_pos hr]
  · have e1 : ∀ r, chainL l r = ([], 0, 5) := fun r => if_neg hl
    rw [e1, e1]
    exact ⟨fun _ => ⟨rfl, rfl⟩, fun h => absurd h (by decide)⟩
theorem chain_small {l : List FldD} {row : List LensD} : smallS (chainL l row).1 := by
  unfold chainL
  split
  · rename_i h
    by_cases q : (chG row l 0).2.2 = 0
    · exact (right_small (chG_right h q)).1
    · rw [chG_no q]; exact ⟨by simp, by simp⟩
  · exact ⟨by simp, by simp⟩
theorem chain_le (l : List FldD) (row : List LensD) : (chainL l row).2.1 ≤ row.length := by
  unfold chainL
  split
  · have := chG_le row l 0; omega
  · simp
set_option maxHeartbeats 1000000 in
theorem chain_c (l : List FldD) (row : List LensD) (hs : smallS l) (hr : ∀ x ∈ row, x.Small) (hlen : row.length ≤ 1000000) : AC Try.prog 27 [.sl (l.map FldD.cs), .sl (row.map LensD.cs)] (fun r => r = .s (.tu [.sl ((chainL l row).1.map FldD.cs), AI ((chainL l row).2.1 : Nat), AI (chainL l row).2.2])) := by
  refine AC.of' 34 0 Try.func27 rfl ?_; change AW _ _ _ _ []; refine AW.seq ?_; refine AW.region ?_; refine AL.ra ?_; refine AL.ra ?_; refine AL.ra ?_; refine AL.nil ?_; change AW _ _ _ _ _; refine AW.scopeL [(0, ⟨Nat × List FldD × Int, [4, 5, 6, 10, 11, 12, 13, 14, 15, 16, 17, 18, 19, 20, 21, 22, 23, 24, 25, 26, 27, 28, 29, 30, 31, 32, 33, 34, 35], fun ⟨k, m, c⟩ => [(9, AI (k : Int)), (7, .sl (m.map FldD.cs)), (8, AI c)], [], fun ⟨k, m, c⟩ => [], fun ⟨k, m, c⟩ => rightS l = true ∧ k ≤ row.length ∧ chG (row.take k) l 0 = (m, k, 0), fun ⟨k, m, c⟩ => row.length - k⟩)] (.cons (by kernel_rfl) .nil) (.cons ?_ .nil) ?_
  ·rintro ⟨k, m, c⟩ gs hJ H; refine AW.norm (by simp only [anys, upds, offs, List.set_cons_zero, List.set_cons_succ]; rfl) (by (try simp only [anys, upds, offs, List.set_cons_zero, List.set_cons_succ]); (try rfl)) ?_
   dsimp only at hJ
   obtain ⟨hl, hk, hc⟩ := hJ; (have hm : smallS m := (by (have := chG_right (a := row.take k) (i := 0) hl (by rw [hc]); rw [hc] at this; exact (right_small this).1)))
   change AW _ _ _ _ _; refine AW.seq ?_; refine AW.seq ?_; refine AW.region ?_; refine AL.rm ?_; refine AL.rm ?_; refine AL.r (rd_len_sl rfl el_59 rfl) ?_; refine AL.r (rd_bin rfl rfl rfl (fun _ => rfl)) ?_; refine AL.nil ?_; change AW _ _ _ _ _; refine AW.cd rfl (fun h18 => ?_) (fun h18 => ?_)
   ·refine AW.seq ?_; refine AW.region ?_; refine AL.rm ?_; refine AL.rm ?_; refine AL.ra ?_; refine AL.ra ?_; refine AL.ra ?_; refine AL.nil ?_; change AW _ _ _ _ _; refine AW.ret ?_; change ResA _ _ _ _ _; refine res3 rfl (ResV.tmp rfl) rfl (ResV.tmp rfl) rfl (ResV.tmp rfl) rfl ?_
    (rw [List.take_of_length_le (by omega)] at hc; rw [show chainL l row = (m, k, 0) from (if_pos hl).trans hc])
   ·refine AW.skip ?_; change AW _ _ _ _ _; refine AW.seq ?_; refine AW.region ?_; refine AL.rm ?_; refine AL.rm ?_; refine AL.rm ?_; refine AL.r (rd_iaddr_sl rfl el_59 rfl rfl rfl (get_mapA (by omega)) rfl) ?_; refine AL.r (rd_loadN_ep rfl ag_50 rfl (Nat.le_of_ble_eq_true rfl) rfl) ?_; refine AL.op rfl (AOpB.op (op_call (apply_c m (row[k]'(by omega)) hm (hr _ (List.getElem_mem (by omega)))) rfl (by kernel_rfl) rfl (none) ?_)); rintro r rfl; refine AL.n ?_; refine AL.rm ?_; refine AL.r (rd_extract rfl rfl rfl) ?_; refine AL.r (rd_extract rfl rfl rfl) ?_; refine AL.ra ?_; refine AL.ra ?_; refine AL.nil ?_; change AW _ _ _ _ _; refine AW.seq ?_; refine AW.seq ?_; refine AW.region ?_; refine AL.rm ?_; refine AL.r (rd_bin rfl rfl rfl (fun _ => rfl)) ?_; refine AL.nil ?_; change AW _ _ _ _ _; refine AW.cd rfl (fun h31 => ?_) (fun h31 => ?_)
    ·refine AW.seq ?_; refine AW.region ?_; refine AL.rm ?_; refine AL.rm ?_; refine AL.ra ?_; refine AL.ra ?_; refine AL.ra ?_; refine AL.nil ?_; change AW _ _ _ _ _; refine AW.ret ?_; change ResA _ _ _ _ _; refine res3 rfl (ResV.tmp rfl) rfl (ResV.tmp rfl) rfl (ResV.tmp rfl) rfl ?_
     (rw [show chainL l row = _ from (if_pos hl).trans (chG_fail (by omega) hc (by assumption))]; rfl)
    ·refine AW.skip ?_; change AW _ _ _ _ _; refine AW.seq ?_; refine AW.region ?_; refine AL.rm ?_; refine AL.r (rd_arith_add rfl rfl rfl (by first | exact IntWalk.i64_in _ (by omega) | rfl)) ?_; refine AL.ra ?_; refine AL.nil ?_; change AW _ _ _ _ _; refine AW.goto ?_
     repeat with_reducible first | refine thenA_goto ?_ | refine inBlockA_goto ?_
     refine gotoI (.head _) ⟨k + 1, (applyL m (row[k]'(by omega))).1, (applyL m (row[k]'(by omega))).2⟩ ?_ ?_ ?_ ?_
     ·dsimp only
      exact ⟨hl, by omega, chG_step (by omega) hc (by assumption)⟩
     ·intro n hn; cases hn; dsimp only; omega
     ·simp only [anys, upds, offs, List.set_cons_zero, List.set_cons_succ]; repeat (first | exact Wk.nil | refine Wk.same ?_ | refine Wk.any ?_)
     ·simp only [anys, upds, offs, List.set_cons_zero, List.set_cons_succ]; repeat (first | exact Sk.nil _ | refine Sk.same _ ?_ | refine Sk.scr _ (by decide) ?_)
  ·intro H; refine AW.seq ?_; refine AW.seq ?_; refine AW.region ?_; refine AL.rm ?_; refine AL.op rfl (AOpB.op (op_call (sright_c l) rfl (by kernel_rfl) rfl (none) ?_)); rintro r rfl; refine AL.n ?_; refine AL.r (rd_un rfl rfl (fun _ => rfl)) ?_; refine AL.nil ?_; change AW _ _ _ _ _; refine AW.cd rfl (fun h12 => ?_) (fun h12 => ?_)
   ·refine AW.seq ?_; refine AW.region ?_; refine AL.ra ?_; refine AL.ra ?_; refine AL.ra ?_; refine AL.nil ?_; change AW _ _ _ _ _; refine AW.ret ?_; change ResA _ _ _ _ _; refine res3 rfl (ResV.tmp rfl) rfl (ResV.tmp rfl) rfl (ResV.tmp rfl) rfl ?_
    (have e : chainL l row = ([], 0, 5) := (if_neg (by simp_all))); rw [e]; rfl
   ·refine AW.skip ?_; change AW _ _ _ _ _; refine AW.seq ?_; refine AW.region ?_; refine AL.rm ?_; refine AL.op rfl (AOpB.op (op_call (sown_c l hs) rfl (by kernel_rfl) rfl (none) ?_)); rintro r rfl; refine AL.n ?_; refine AL.ra ?_; refine AL.ra ?_; refine AL.nil ?_; change AW _ _ _ _ _; refine AW.seq ?_; refine AW.region ?_; refine AL.ra ?_; refine AL.nil ?_; change AW _ _ _ _ _; refine AW.seq ?_; refine AW.label ?_; change AW _ _ _ _ _; refine H _ _ (.head _) ⟨0, l, 0⟩ ?_ _ _ ?_ ?_
    ·dsimp only
     exact ⟨by simp_all, by omega, rfl⟩
    ·simp only [anys, upds, offs, List.set_cons_zero, List.set_cons_succ]; repeat (first | exact Wk.nil | refine Wk.same ?_ | refine Wk.any ?_)
    ·simp only [anys, upds, offs, List.set_cons_zero, List.set_cons_succ]; repeat (first | exact Sk.nil _ | refine Sk.same _ ?_ | refine Sk.scr _ (by decide) ?_)
def heavyR (row : List LensD) : Bool := decide (12 < row.length) || row.any heavyL
theorem rheavyR (row : List LensD) : AC Try.prog 26 [.sl (row.map LensD.cs)] (fun r => r = .s (AB (heavyR row))) := by
  refine AC.of' 17 0 Try.func26 rfl ?_; change AW _ _ _ _ []; refine AW.seq ?_; refine AW.region ?_; refine AL.ra ?_; refine AL.nil ?_; change AW _ _ _ _ _; refine AW.seq ?_; refine AW.seq ?_; refine AW.region ?_; refine AL.rm ?_; refine AL.r (rd_len_sl rfl el_59 rfl) ?_; refine AL.r (rd_bin rfl rfl rfl (fun _ => rfl)) ?_; refine AL.nil ?_; change AW _ _ _ _ _; refine AW.cd rfl (fun h6 => ?_) (fun h6 => ?_)
  ·refine AW.seq ?_; refine AW.region ?_; refine AL.ra ?_; refine AL.nil ?_; change AW _ _ _ _ _; refine AW.ret ?_; change ResA _ _ _ _ _; refine res1 rfl (ResV.tmp rfl) rfl ?_
   (refine congrArg (fun b => RS.s (AB b)) ?_; unfold heavyR; rw [decide_eq_true (by omega)]; rfl)
  ·refine AW.skip ?_; change AW _ _ _ _ _; refine AW.seq ?_; refine AW.seq ?_; refine AW.region ?_; refine AL.ra ?_; refine AL.nil ?_; change AW _ _ _ _ _; refine AW.block ?_; refine AW.loopM (ι := Nat) [2, 7, 8, 9, 10, 11, 12, 13, 14, 15, 16, 17] (fun k => [(3, AI (k : Int))]) [] (fun k => []) (fun k => k ≤ row.length ∧ ∀ i (hi : i < row.length), i < k → heavyL row[i] = false) (fun k => row.length - k) 0 (⟨by omega, fun i _ hi => absurd hi (by omega)⟩) (by simp only [anys, upds, offs, List.set_cons_zero, List.set_cons_succ]; repeat (first | exact Wk.nil | refine Wk.same ?_ | refine Wk.any ?_)) (by simp only [anys, upds, offs, List.set_cons_zero, List.set_cons_succ]; repeat (first | exact Sk.nil _ | refine Sk.same _ ?_ | refine Sk.scr _ (by decide) ?_)) ?_; rintro k gs hJ; refine AW.norm (by simp only [anys, upds, offs, List.set_cons_zero, List.set_cons_succ]; rfl) (by (try simp only [anys, upds, offs, List.set_cons_zero, List.set_cons_succ]); (try rfl)) ?_
   obtain ⟨hk, hok⟩ := hJ
   refine AW.seq ?_; refine AW.seq ?_; refine AW.region ?_; refine AL.rm ?_; refine AL.rm ?_; refine AL.r (rd_len_sl rfl el_59 rfl) ?_; refine AL.r (rd_bin rfl rfl rfl (fun _ => rfl)) ?_; refine AL.nil ?_; change AW _ _ _ _ _; refine AW.cd rfl (fun h10 => ?_) (fun h10 => ?_)
   ·refine AW.skip ?_; change AW _ _ _ _ _; refine AW.seq ?_; refine AW.block ?_; refine AW.seq ?_; refine AW.region ?_; refine AL.rm ?_; refine AL.rm ?_; refine AL.r (rd_iaddr_sl rfl el_59 rfl rfl rfl (get_mapA (by omega)) rfl) ?_; refine AL.r (rd_loadN_ep rfl ag_50 rfl (Nat.le_of_ble_eq_true rfl) rfl) ?_; refine AL.op rfl (AOpB.op (op_call (rheavyl_c (row[k]'(by omega))) rfl (by kernel_rfl) rfl (none) ?_)); rintro r rfl; refine AL.n ?_; refine AL.nil ?_; change AW _ _ _ _ _; refine AW.cd rfl (fun h17 => ?_) (fun h17 => ?_)
    ·refine AW.seq ?_; refine AW.region ?_; refine AL.ra ?_; refine AL.nil ?_; change AW _ _ _ _ _; refine AW.ret ?_; change ResA _ _ _ _ _; refine res1 rfl (ResV.tmp rfl) rfl ?_
     (refine congrArg (fun b => RS.s (AB b)) ?_; unfold heavyR; rw [List.any_eq_true.2 ⟨row[k], List.getElem_mem (by omega), by assumption⟩, Bool.or_true])
    ·refine AW.skip ?_; change AW _ _ _ _ _; refine AW.region ?_; refine AL.rm ?_; refine AL.r (rd_arith_add rfl rfl rfl (by first | exact IntWalk.i64_in _ (by omega) | rfl)) ?_; refine AL.ra ?_; refine AL.nil ?_; refine ⟨k + 1, ?_, by first | omega | (simp only []; omega), ?_, ?_⟩
     ·exact ⟨by omega, all_nextL (p := fun (y : LensD) => heavyL y = false) (by omega) hok (by assumption)⟩
     ·simp only [anys, upds, offs, List.set_cons_zero, List.set_cons_succ]; repeat (first | exact Wk.nil | refine Wk.same ?_ | refine Wk.any ?_)
     ·simp only [anys, upds, offs, List.set_cons_zero, List.set_cons_succ]; repeat (first | exact Sk.nil _ | refine Sk.same _ ?_ | refine Sk.scr _ (by decide) ?_)
   ·refine AW.exit ?_; change AW _ _ _ _ _; refine AW.seq ?_; refine AW.region ?_; refine AL.ra ?_; refine AL.nil ?_; change AW _ _ _ _ _; refine AW.ret ?_; change ResA _ _ _ _ _; refine res1 rfl (ResV.tmp rfl) rfl ?_
    (refine congrArg (fun b => RS.s (AB b)) ?_; unfold heavyR; rw [decide_eq_false (by omega), any_f (fun i hi => hok i hi (by omega))]; rfl)
theorem heavyR_small {row : List LensD} (h : heavyR row = false) : row.length ≤ 12 ∧ ∀ x ∈ row, x.Small := by
  unfold heavyR at h
  simp only [Bool.or_eq_false_iff, decide_eq_false_iff_not, List.any_eq_false] at h
  exact ⟨by omega, fun x hx => heavyL_small (by simpa using h.2 x hx)⟩
theorem chain_is {l : List FldD} {row : List LensD} (hs : smallS l) (hr : row.length ≤ 12 ∧ ∀ x ∈ row, x.Small) {m : List FldD} {k : Nat} {e : Int} (h : chainL l row = (m, k, e)) : AC Try.prog 27 [.sl (l.map FldD.cs), .sl (row.map LensD.cs)] (fun r => r = .s (.tu [.sl (m.map FldD.cs), AI (k : Int), AI e])) := by
  have := chain_c l row hs hr.2 (by omega)
  rw [h] at this
  exact this
section
variable {H : Type} {enc : TypeId × Value → H} {W : World} {base b0 : Nat} {sp : Nat → Bool} {held : Bool} {r : Reach}
theorem op_Lenses : OpT enc Try.prog W base sp held 59 (fun l : List LensD => l.length ≤ maxLen ∧ ∀ f ∈ l, True) (fun l => [.sl (l.map LensD.cs)]) := op_slice (sz := 16) Try.underlying59 (by kernel_rfl) (by decide) (fun _ => rfl) op_Lens
theorem open_Lenses {v : Value} {d : DataW H} {p : List MemPlace} (hv : Value.okWide Try.prog W r b0 59 v) (h : DataW.Trod enc Try.prog W base sp held 59 v d p) : ∃ l : List LensD, True ∧ RepS AnyB W v (.sl (l.map LensD.cs)) := by
  obtain ⟨A, n, c, rfl⟩ := okWide_slice Try.underlying59 hv
  obtain ⟨l, _, h2⟩ := OpT.cell (f := fun l : List LensD => AV.sl (l.map LensD.cs)) op_Lenses rfl h
  exact ⟨l, trivial, h2⟩
end
end Go.Proofs.Ytdgcbhihmnhnaaa
