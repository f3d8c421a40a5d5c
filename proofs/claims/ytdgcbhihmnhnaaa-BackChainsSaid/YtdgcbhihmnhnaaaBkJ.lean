/- Rows of lenses: the ways back, plain and walked; the law BackChains. No conditions. -/
import Derived.Test.YtdgcbhihmnhnaaaBkI
import Derived.Test.YtdgcbhihmnhnaaaOwN
namespace Go.Proofs.Ytdgcbhihmnhnaaa
set_option linter.unusedSimpArgs false
set_option linter.unusedVariables false
set_option maxRecDepth 100000
set_option maxRecDepth 100000
open Go.RowKit

/-- The first that is not right, or the ways back. -/
def retG : List LensD → Nat → Nat × Bool
  | [], i => (i, true)
  | x :: xs, i => if rightL x = true then retG xs (i + 1) else (i, false)
def backR (row : List LensD) : List LensD := row.reverse.map invL
theorem retG_ok : ∀ {a : List LensD} {i : Nat}, (retG a i).2 = true → (retG a i).1 = i + a.length ∧ ∀ x ∈ a, rightL x = true
  | [], i, _ => ⟨rfl, fun x hx => by simp at hx⟩
  | x :: a, i, h => by
    unfold retG at h ⊢
    split at h
    · rename_i q
      obtain ⟨h1, h2⟩ := retG_ok h
      rw [if_pos q, h1, List.length_cons]
      refine ⟨by omega, fun y hy => ?_⟩
      rcases List.mem_cons.1 hy with rfl | hy
      · exact q
      · exact h2 y hy
    · cases h
theorem retG_all : ∀ {a : List LensD} {i : Nat}, (∀ x ∈ a, rightL x = true) → retG a i = (i + a.length, true)
  | [], i, _ => rfl
  | x :: a, i, h => by
    unfold retG
    rw [if_pos (h x (by simp)), retG_all (fun y hy => h y (by simp [hy])), List.length_cons]
    exact Prod.ext (by simp only; omega) rfl
theorem retG_at : ∀ {a : List LensD} {k i : Nat} (hk : k < a.length), (∀ j (hj : j < a.length), j < k → rightL a[j] = true) → rightL a[k] = false → retG a i = (i + k, false)
  | [], k, i, hk, _, _ => absurd hk (Nat.not_lt_zero _)
  | x :: a, 0, i, hk, _, h => by
    have h : rightL x = false := h
    unfold retG
    rw [if_neg (by rw [h]; decide)]; rfl
  | x :: a, k + 1, i, hk, hb, h => by
    have h0 : rightL x = true := hb 0 (by simp) (by omega)
    unfold retG
    rw [if_pos h0, retG_at (k := k) (by simpa using hk) (fun j hj hjk => hb (j + 1) (by simpa using hj) (by omega)) (by simpa using h)]
    exact Prod.ext (by simp only; omega) rfl
/-- A row that leads somewhere leads back. -/
theorem chG_back : ∀ {row : List LensD} {l : List FldD} {i j : Nat}, (chG row l i).2.2 = 0 → (∀ x ∈ row, rightL x = true) ∧ chG (backR row) (chG row l i).1 j = (l, j + row.length, 0)
  | [], l, i, j, _ => ⟨fun x hx => by simp at hx, rfl⟩
  | x :: row, l, i, j, h => by
    by_cases q : (applyL l x).2 = 0
    · have ec : chG (x :: row) l i = chG row (applyL l x).1 (i + 1) := if_pos q
      rw [ec] at h ⊢
      obtain ⟨h1, h2⟩ := chG_back (j := j) h
      refine ⟨fun y hy => ?_, ?_⟩
      · rcases List.mem_cons.1 hy with rfl | hy
        · exact (app_of q).rx
        · exact h1 y hy
      · have e : backR (x :: row) = backR row ++ [invL x] := by simp [backR]
        rw [e, chG_app, h2]
        simp only [if_pos, chG]
        rw [apply_back q]
        simp
        omega
    · have ec : chG (x :: row) l i = ([], i, (applyL l x).2) := if_neg q
      rw [ec] at h
      exact absurd h q
theorem chain_back {l m : List FldD} {row : List LensD} {k : Nat} (h : chainL l row = (m, k, 0)) : (∀ x ∈ row, rightL x = true) ∧ k = row.length ∧ chainL m (backR row) = (l, row.length, 0) := by
  unfold chainL at h
  split at h
  · rename_i hl
    have h0 : (chG row l 0).2.2 = 0 := by rw [h]
    have hm := chG_right hl h0
    have hk := chG_ok h0
    obtain ⟨a, b⟩ := chG_back (j := 0) h0
    rw [h] at hm hk b
    refine ⟨a, by simpa using hk, ?_⟩
    unfold chainL
    rw [if_pos hm, b, Nat.zero_add]
  · injection h with _ h
    injection h with _ h
    exact absurd h (by decide)
theorem backR_small {row : List LensD} (h : ∀ x ∈ row, x.Small) : ∀ x ∈ backR row, x.Small := fun x hx => by
  obtain ⟨y, hy, rfl⟩ := List.mem_map.1 hx
  exact (h y (List.mem_reverse.1 hy)).inv
theorem rev_next {row : List LensD} {k : Nat} (hk : k < row.length) : (row.take (k + 1)).reverse.map invL = invL row[k] :: (row.take k).reverse.map invL := by
  rw [← List.take_append_getElem hk, List.reverse_append, List.map_append]
  rfl
theorem set_back {α : Type} {n k : Nat} (hk : k < n) (z v : α) (R : List α) : (List.replicate (n - k) z ++ R).set (n - 1 - k) v = List.replicate (n - (k + 1)) z ++ (v :: R) := by
  have e : n - k = (n - (k + 1)) + 1 := by omega
  have e2 : n - 1 - k = n - (k + 1) := by omega
  rw [e, e2, List.replicate_succ', List.append_assoc, List.set_append_right _ _ (by simp)]
  simp
/-- The zero lens, as cells. -/
def zLc : List AV := [AI 0, AI 0, AS [], AS [], AS [], AS [], AI 0, AI 0, AS [], AS [], AI 0, AS [], .sc (.slice none 0 0), AI 0, .sc (.slice none 0 0), .sc (.slice none 0 0)]
theorem binv_x (x : LensD) (h : x.Small) : AC Try.prog 24 [x.av] (fun r => ∃ y c, y = (invP x).1 ∧ c = (invP x).2 ∧ r = .s (.tu [.ag [AI y.kind, AI y.at_.scope, AS y.at_.group, AS y.at_.name, AS y.name, AS y.other, AI y.factor, AI y.field.at_.scope, AS y.field.at_.group, AS y.field.at_.name, AI y.field.kind, AS y.field.dflt, .sl (csS y.field.cases), AI y.field.worth, .sl (y.forth.map PairD.cs), .sl (y.back.map PairD.cs)], AI c])) :=
  (binv_c x h).mono fun r hh => ⟨_, _, rfl, rfl, hh⟩
theorem rinv_x (x : LensD) (h : x.Small) : AC Try.prog 67 [x.av] (fun r => ∃ y c, y = (invP x).1 ∧ c = (invP x).2 ∧ r = .s (.tu [.ag [AI y.kind, AI y.at_.scope, AS y.at_.group, AS y.at_.name, AS y.name, AS y.other, AI y.factor, AI y.field.at_.scope, AS y.field.at_.group, AS y.field.at_.name, AI y.field.kind, AS y.field.dflt, .sl (csS y.field.cases), AI y.field.worth, .sl (y.forth.map PairD.cs), .sl (y.back.map PairD.cs)], AI c])) :=
  (rinv_c x h).mono fun r hh => ⟨_, _, rfl, rfl, hh⟩
theorem invP_0 {x : LensD} (h : (invP x).2 = 0) : rightL x = true ∧ (invP x).1 = invL x := by
  unfold invP at h ⊢
  split at h
  · rename_i q; rw [if_pos q]; exact ⟨q, rfl⟩
  · exact absurd h (by decide)
theorem invP_5 {x : LensD} (h : ¬ (invP x).2 = 0) : rightL x = false ∧ (invP x).2 = 5 := by
  unfold invP at h ⊢
  split at h
  · exact absurd rfl h
  · rename_i q; rw [if_neg q]; exact ⟨by simpa using q, rfl⟩
def retL (row : List LensD) : List LensD × Nat × Int := if (retG row 0).2 = true then (backR row, row.length, 0) else ([], (retG row 0).1, 5)
theorem retL_t {row : List LensD} (h : ∀ j (hj : j < row.length), rightL row[j] = true) : retL row = (backR row, row.length, 0) := by
  unfold retL
  rw [retG_all (fun x hx => by obtain ⟨j, hj, rfl⟩ := List.getElem_of_mem hx; exact h j hj), if_pos rfl]
theorem retL_f {row : List LensD} {k : Nat} (hk : k < row.length) (h : ∀ j (hj : j < row.length), j < k → rightL row[j] = true) (h2 : rightL row[k] = false) : retL row = ([], k, 5) := by
  unfold retL
  rw [retG_at hk h h2]
  simp
set_option maxHeartbeats 1000000 in
theorem return_c (row : List LensD) (hr : ∀ x ∈ row, x.Small) (hlen : row.length ≤ 1000) : AC Try.prog 29 [.sl (row.map LensD.cs)] (fun r => r = .s (.tu [.sl ((retL row).1.map LensD.cs), AI ((retL row).2.1 : Nat), AI (retL row).2.2])) := by
  refine AC.of' 39 2 Try.func29 rfl ?_; change AW _ _ _ _ [TK.mk 0 .off, TK.mk 0 .off]; refine AW.seq ?_; refine AW.region ?_; refine AL.ra ?_; refine AL.ra ?_; refine AL.ra ?_; refine AL.nil ?_; change AW _ _ _ _ _; refine AW.scopeL [(0, ⟨Nat × Nat, [2, 3, 4, 7, 8, 9, 10, 11, 12, 13, 14, 15, 16, 17, 18, 19, 20, 21, 22, 23, 24, 25, 26, 27, 28, 29, 30, 31, 32, 33, 34, 35, 36, 37, 38, 39], fun ⟨k, g⟩ => [(6, AI (k : Int)), (5, .ow 0 g)], [1], fun ⟨k, g⟩ => [(0, ⟨g, .own 50 16 (List.replicate (row.length - k) zLc ++ ((row.take k).reverse.map invL).map LensD.cs)⟩)], fun ⟨k, g⟩ => k ≤ row.length ∧ ∀ j (hj : j < row.length), j < k → rightL row[j] = true, fun ⟨k, g⟩ => row.length - k⟩)] (.cons (by kernel_rfl) .nil) (.cons ?_ .nil) ?_
  ·rintro ⟨k, g⟩ gs hJ H; refine AW.norm (by simp only [anys, upds, offs, List.set_cons_zero, List.set_cons_succ]; rfl) (by (try simp only [anys, upds, offs, List.set_cons_zero, List.set_cons_succ]); (try rfl)) ?_
   dsimp only at hJ
   obtain ⟨hk, hok⟩ := hJ
   change AW _ _ _ _ _; refine AW.seq ?_; refine AW.seq ?_; refine AW.region ?_; refine AL.rm ?_; refine AL.rm ?_; refine AL.r (rd_len_sl rfl el_59 rfl) ?_; refine AL.r (rd_bin rfl rfl rfl (fun _ => rfl)) ?_; refine AL.nil ?_; change AW _ _ _ _ _; refine AW.cd rfl (fun h15 => ?_) (fun h15 => ?_)
   ·refine AW.seq ?_; refine AW.region ?_; refine AL.rm ?_; refine AL.rm ?_; refine AL.ra ?_; refine AL.ra ?_; refine AL.ra ?_; refine AL.nil ?_; change AW _ _ _ _ _; refine AW.ret ?_; change ResA _ _ _ _ _; refine res3 rfl (ResV.tmp rfl) (by first | rfl | exact setA_own rfl) (ResV.tmp rfl) rfl (ResV.tmp rfl) rfl ?_
    (rw [retL_t (fun j hj => hok j hj (by omega)), show row.length - k = 0 by omega, List.take_of_length_le (by omega), show k = row.length by omega]; rfl)
   ·refine AW.skip ?_; change AW _ _ _ _ _; refine AW.seq ?_; refine AW.region ?_; refine AL.rm ?_; refine AL.rm ?_; refine AL.r (rd_iaddr_sl rfl el_59 rfl rfl rfl (get_mapA (by omega)) rfl) ?_; refine AL.r (rd_loadN_ep rfl ag_50 rfl (Nat.le_of_ble_eq_true rfl) rfl) ?_; refine AL.op rfl (AOpB.op (op_call (binv_x (row[k]'(by omega)) (hr _ (List.getElem_mem (by omega)))) rfl (by kernel_rfl) rfl (none) ?_)); rintro r ⟨y, c, hy, hc, rfl⟩; refine AL.n ?_; refine AL.rm ?_; refine AL.r (rd_extract rfl rfl rfl) ?_; refine AL.r (rd_extract rfl rfl rfl) ?_; refine AL.op rfl (AOpB.op (op_alloc 1 rfl ze_50 rfl ?_)); refine AL.n ?_; refine AL.op rfl (op_store_ rfl rfl rfl rfl rfl sz_50 ?_); refine AL.b ?_; refine AL.ra ?_; refine AL.nil ?_; change AW _ _ _ _ _; refine AW.seq ?_; refine AW.seq ?_; refine AW.region ?_; refine AL.rm ?_; refine AL.r (rd_bin rfl rfl rfl (fun _ => rfl)) ?_; refine AL.nil ?_
    change AW _ _ _ _ _; refine AW.cd rfl (fun h27 => ?_) (fun h27 => ?_)
    ·refine AW.seq ?_; refine AW.region ?_; refine AL.rm ?_; refine AL.rm ?_; refine AL.ra ?_; refine AL.ra ?_; refine AL.ra ?_; refine AL.nil ?_; change AW _ _ _ _ _; refine AW.ret ?_; change ResA _ _ _ _ _; refine res3 rfl (ResV.tmp rfl) rfl (ResV.tmp rfl) rfl (ResV.tmp rfl) rfl ?_
     (rw [retL_f (by omega) hok (invP_5 (by rw [← hc]; assumption)).1]; rw [hc, (invP_5 (by rw [← hc]; assumption)).2]; rfl)
    ·refine AW.skip ?_; change AW _ _ _ _ _; refine AW.seq ?_; refine AW.region ?_; refine AL.rm ?_; refine AL.rm ?_; refine AL.r (rd_len_sl rfl el_59 rfl) ?_; refine AL.r (rd_arith_sub rfl rfl rfl (by first | exact IntWalk.i64_in _ (by omega) | rfl)) ?_; refine AL.rm ?_; refine AL.r (rd_arith_sub rfl rfl rfl (by first | exact IntWalk.i64_in _ (by omega) | rfl)) ?_; refine AL.r (rd_loadN_bx rfl ag_50 rfl rfl (Nat.le_of_ble_eq_true rfl) rfl) ?_; refine AL.r (rd_iaddr_ow rfl el_59 rfl rfl rfl (n := row.length - 1 - k) (by omega) (by simp only [List.length_append, List.length_replicate]; omega)) ?_; refine AL.store_own 5 (row.length - 1 - k) rfl rfl rfl rfl rfl rfl rfl rfl rfl rfl sz_50 rfl rfl (by simp only [List.length_append, List.length_replicate]; omega) ?_; refine AL.n ?_; refine AL.nil ?_; change AW _ _ _ _ _; refine AW.seq ?_; refine AW.region ?_; refine AL.rm ?_; refine AL.r (rd_arith_add rfl rfl rfl (by first | exact IntWalk.i64_in _ (by omega) | rfl)) ?_
     refine AL.ra ?_; refine AL.nil ?_; change AW _ _ _ _ _; refine AW.goto ?_
     repeat with_reducible first | refine thenA_goto ?_ | refine inBlockA_goto ?_
     refine gotoI (.head _) ⟨k + 1, g + 1⟩ ?_ ?_ ?_ ?_
     ·dsimp only
      exact ⟨by omega, all_nextL (p := fun (y : LensD) => rightL y = true) (by omega) hok (invP_0 (by rw [← hc]; assumption)).1⟩
     ·intro n hn; cases hn; dsimp only; omega
     ·simp only [anys, upds, offs, List.set_cons_zero, List.set_cons_succ]; repeat (first | exact Wk.nil | refine Wk.same ?_ | refine Wk.any ?_)
     ·simp only [anys, upds, offs, List.set_cons_zero, List.set_cons_succ]; repeat (first | exact Sk.nil _ | refine Sk.same _ ?_ | refine Sk.scr _ (by decide) ?_ | refine Sk.eq _ (by (rw [set_back (by omega), rev_next (by omega), List.map_cons, ← (invP_0 (by rw [← hc]; assumption)).2, ← hy]; rfl)) ?_)
  ·intro H; refine AW.seq ?_; refine AW.region ?_; refine AL.rm ?_; refine AL.r (rd_len_sl rfl el_59 rfl) ?_; refine AL.op rfl (AOpB.op (op_makeN 0 rfl ap_59 ze_50 rfl rfl rfl rfl (by omega) (by omega) rfl ?_)); refine AL.n ?_; refine AL.ra ?_; refine AL.nil ?_; change AW _ _ _ _ _; refine AW.seq ?_; refine AW.region ?_; refine AL.ra ?_; refine AL.nil ?_; change AW _ _ _ _ _; refine AW.seq ?_; refine AW.label ?_; change AW _ _ _ _ _; refine H _ _ (.head _) ⟨0, 1⟩ ?_ _ _ ?_ ?_
   ·dsimp only
    exact ⟨by omega, fun j _ h => absurd h (by omega)⟩
   ·simp only [anys, upds, offs, List.set_cons_zero, List.set_cons_succ]; repeat (first | exact Wk.nil | refine Wk.same ?_ | refine Wk.any ?_)
   ·simp only [anys, upds, offs, List.set_cons_zero, List.set_cons_succ]; repeat (first | exact Sk.nil _ | refine Sk.same _ ?_ | refine Sk.scr _ (by decide) ?_ | refine Sk.eq _ (by simp [zLc]) ?_)
end Go.Proofs.Ytdgcbhihmnhnaaa
