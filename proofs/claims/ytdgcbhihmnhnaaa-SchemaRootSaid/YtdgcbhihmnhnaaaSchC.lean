/- Schemas that take in or lose a field, walked over abstract states. Conditions: small schemas. -/
import Derived.Test.YtdgcbhihmnhnaaaSchB
import Derived.Test.YtdgcbhihmnhnaaaMb
namespace Go.Proofs.Ytdgcbhihmnhnaaa
set_option linter.unusedSimpArgs false
set_option linter.unusedVariables false
set_option maxRecDepth 100000
open Go.RowKit

def cutS (l : List FldD) (r : RefD) : Nat := (l.takeWhile fun f => lessR f.at_ r).length
def putS (l : List FldD) (f : FldD) : List FldD := l.take (cutS l f.at_) ++ f :: l.drop (cutS l f.at_)
def withS (l : List FldD) (f : FldD) : List FldD × Int := if !(rightS l && rightF f) then ([], 5) else if 0 ≤ idxS l f.at_ then ([], 7) else if 15 < l.length then ([], 14) else (putS l f, 0)
theorem cutS_le (l : List FldD) (r : RefD) : cutS l r ≤ l.length := (List.takeWhile_sublist _).length_le
theorem cutS_t : ∀ {l : List FldD} {r : RefD} {k : Nat} (h : k ≤ cutS l r) (hk : k < l.length), lessR l[k].at_ r = true → k + 1 ≤ cutS l r
  | [], _, _, _, hk, _ => absurd hk (Nat.not_lt_zero _)
  | x :: l, r, 0, h, hk, ht => by
    have h2 : lessR x.at_ r = true := ht
    simp [cutS, List.takeWhile_cons, h2]
  | x :: l, r, k + 1, h, hk, ht => by
    by_cases h2 : lessR x.at_ r = true
    · have h3 : cutS (x :: l) r = cutS l r + 1 := by simp [cutS, List.takeWhile_cons, h2]
      have := cutS_t (l := l) (r := r) (k := k) (by omega) (by simpa using hk) (by simpa using ht)
      omega
    · have h3 : cutS (x :: l) r = 0 := by simp [cutS, List.takeWhile_cons, h2]
      omega
theorem cutS_f : ∀ {l : List FldD} {r : RefD} {k : Nat} (h : k ≤ cutS l r) (hk : k < l.length), lessR l[k].at_ r = false → cutS l r = k
  | [], _, _, _, hk, _ => absurd hk (Nat.not_lt_zero _)
  | x :: l, r, 0, h, hk, ht => by
    have h2 : lessR x.at_ r = false := ht
    simp [cutS, List.takeWhile_cons, h2]
  | x :: l, r, k + 1, h, hk, ht => by
    by_cases h2 : lessR x.at_ r = true
    · have h3 : cutS (x :: l) r = cutS l r + 1 := by simp [cutS, List.takeWhile_cons, h2]
      have := cutS_f (l := l) (r := r) (k := k) (by omega) (by simpa using hk) (by simpa using ht)
      omega
    · have h3 : cutS (x :: l) r = 0 := by simp [cutS, List.takeWhile_cons, h2]
      omega
theorem put_next {α β : Type} {g : α → β} {l : List α} {c k : Nat} {f : α} (hc : c ≤ k) (hk : k < l.length) : ((l.take c ++ f :: (l.drop c).take (k - c)).map g) ++ [g l[k]] = (l.take c ++ f :: (l.drop c).take (k + 1 - c)).map g := by
  have e : k + 1 - c = (k - c) + 1 := by omega
  have h2 : k - c < (l.drop c).length := by rw [List.length_drop]; omega
  rw [e, List.take_succ_eq_append_getElem h2]
  have h3 : (l.drop c)[k - c] = l[k] := by rw [List.getElem_drop]; congr 1; omega
  rw [h3]
  simp
theorem put_first {α β : Type} {g : α → β} {l : List α} {k : Nat} {f : α} : ((l.take k).map g) ++ [g f] = (l.take k ++ f :: (l.drop k).take (k - k)).map g := by simp
theorem put_end {α : Type} {l : List α} {c k : Nat} {f : α} (hk : k = l.length) : l.take c ++ f :: (l.drop c).take (k - c) = l.take c ++ f :: l.drop c := by
  rw [show (l.drop c).take (k - c) = l.drop c from List.take_of_length_le (by rw [List.length_drop]; omega)]
theorem put_len {α : Type} {l : List α} {c k : Nat} {f : α} : (l.take c ++ f :: (l.drop c).take (k - c)).length ≤ l.length + 1 := by
  simp only [List.length_append, List.length_cons, List.length_take, List.length_drop]
  omega
theorem with_c (l : List FldD) (f : FldD) (hl : smallS l) (hf : f.cases.length ≤ 1000000) : AC Try.prog 61 [.sl (l.map FldD.cs), f.av] (fun x => x = .s (.tu [.sl ((withS l f).1.map FldD.cs), AI (withS l f).2])) := by
  have hl1 := hl.1
  have hcl := cutS_le l f.at_
  refine AC.of' 70 8 Try.func61 rfl ?_; change AW _ _ _ _ [TK.mk 0 .off, TK.mk 0 .off, TK.mk 0 .off, TK.mk 0 .off, TK.mk 0 .off, TK.mk 0 .off, TK.mk 0 .off, TK.mk 0 .off]; refine AW.seq ?_; refine AW.region ?_; refine AL.op rfl (AOpB.op (op_box 0 rfl rfl rfl rfl rfl ?_)); refine AL.n ?_; refine AL.ra ?_; refine AL.ra ?_; refine AL.nil ?_; change AW _ _ _ _ _; refine AW.scopeL [(0, ⟨Nat × Nat, [4, 5, 8, 9, 10, 11, 12, 13, 14, 15, 16, 17, 18, 19, 20, 21, 22, 23, 24, 25, 26, 27, 28, 29, 30, 31, 32, 33, 34, 35, 36, 37, 38, 39, 40, 41, 42, 43, 44, 45, 46, 47, 48, 49, 50, 51, 52, 53, 54, 55, 56, 57, 58, 59, 60, 61, 62, 63, 64, 65, 66, 67, 68, 69, 70, 71], fun ⟨k, g⟩ => [(6, .ow 1 g), (7, AI (k : Int))], [2, 3, 4, 5, 6, 7], fun ⟨k, g⟩ => [(1, ⟨g, .own 47 7 ((l.take k).map FldD.cs)⟩)], fun ⟨k, g⟩ => (l.length < 16 ∧ withS l f = (putS l f, 0)) ∧ k ≤ cutS l f.at_, fun ⟨k, g⟩ => l.length - k + l.length + 1⟩), (1, ⟨Nat × Nat, [4, 5, 8, 9, 10, 11, 12, 13, 14, 15, 16, 17, 18, 19, 20, 21, 22, 23, 24, 25, 26, 27, 28, 29, 30, 31, 32, 33, 34, 35, 36, 37, 38, 39, 40, 41, 42, 43, 44, 45, 46, 47, 48, 49, 50, 51, 52, 53, 54, 55, 56, 57, 58, 59, 60, 61, 62, 63, 64, 65, 66, 67, 68, 69, 70, 71], fun ⟨k, g⟩ => [(6, .ow 1 g), (7, AI (k : Int))], [2, 3, 4, 5, 6, 7], fun ⟨k, g⟩ => [(1, ⟨g, .own 47 7 ((l.take (cutS l f.at_) ++ f :: (l.drop (cutS l f.at_)).take (k - cutS l f.at_)).map FldD.cs)⟩)], fun ⟨k, g⟩ => (l.length < 16 ∧ withS l f = (putS l f, 0)) ∧ cutS l f.at_ ≤ k ∧ k ≤ l.length, fun ⟨k, g⟩ => l.length - k⟩)] (.cons (by kernel_rfl) (.cons (by kernel_rfl) .nil)) (.cons ?_ (.cons ?_ .nil)) ?_
  ·rintro ⟨k, g⟩ gs hJ H; refine AW.norm (by simp only [anys, upds, offs, List.set_cons_zero, List.set_cons_succ]; rfl) (by (try simp only [anys, upds, offs, List.set_cons_zero, List.set_cons_succ]); (try rfl)) ?_
   dsimp only at hJ
   obtain ⟨⟨h16, hW⟩, hk⟩ := hJ
   change AW _ _ _ _ _; refine AW.seq ?_; refine AW.seq ?_; refine AW.draw (by kernel_rfl) ?_; refine AD.r 0 rfl (rd_move rfl rfl) rfl ?_; refine AD.r 1 rfl (rd_move rfl rfl) rfl ?_; refine AD.r 2 rfl (rd_len_sl rfl el_42 rfl) rfl ?_; refine AD.r 3 rfl (rd_bin rfl rfl rfl (fun _ => rfl)) rfl ?_; refine AD.r 4 rfl (rd_move rfl rfl) rfl ?_; refine AD.fk (d := 32) rfl (fun h32 => ?_) (fun h32 => ?_)
   ·refine AD.n ?_; refine AD.r 5 rfl (rd_move rfl rfl) ⟨_, _, rfl, rfl, rfl⟩ ?_; refine AD.r 6 rfl (rd_move rfl rfl) ⟨_, _, rfl, rfl, rfl⟩ ?_; refine AD.r 7 rfl (rd_iaddr_sl rfl el_42 rfl rfl rfl (get_mapA (by omega)) rfl) ⟨_, _, rfl, rfl, rfl⟩ ?_; refine AD.r 8 rfl (rd_faddr_ep rfl fo_47_0 rfl) ⟨_, _, rfl, rfl, rfl⟩ ?_; refine AD.r 9 rfl (rd_loadN_ep rfl ag_44 rfl (Nat.le_of_ble_eq_true rfl) rfl) ⟨_, _, rfl, rfl, rfl⟩ ?_; refine AD.r 10 rfl (rd_faddr_bx rfl fo_47_0 rfl rfl ⟨_, _, rfl⟩) ⟨_, _, rfl, rfl, rfl⟩ ?_; refine AD.r 11 rfl (rd_loadN_bx rfl ag_44 rfl rfl (Nat.le_of_ble_eq_true rfl) rfl) ⟨_, _, rfl, rfl, rfl⟩ ?_; refine AD.move 12 rfl (by kernel_rfl) ⟨_, _, rfl, rfl, rfl⟩ (op_call (less_c (l[k]'(by omega)).at_ f.at_) rfl (by kernel_rfl) rfl (none) ?_); rintro r rfl; refine AD.n ?_; refine AD.r 13 rfl (rd_pick_t rfl rfl rfl) rfl ?_; refine AD.done (by kernel_rfl) ?_; change AW _ _ _ _ _
    refine AW.cd rfl (fun h41 => ?_) (fun h41 => ?_)
    ·refine AW.seq ?_; refine AW.region ?_; refine AL.rm ?_; refine AL.rm ?_; refine AL.rm ?_; refine AL.r (rd_iaddr_sl rfl el_42 rfl rfl rfl (get_mapA (by omega)) rfl) ?_; refine AL.r (rd_loadN_ep rfl ag_47 rfl (Nat.le_of_ble_eq_true rfl) rfl) ?_; refine AL.op rfl (AOpB.op (op_call (own_c (l[k]'(by omega)) (hl.at_ (by omega))) rfl (by kernel_rfl) rfl (none) ?_)); rintro r rfl; refine AL.n ?_; refine AL.op rfl (AOpB.op (bs_set rfl ap_42 ze_47 rfl rfl ?_)); refine AL.n ?_; refine AL.op rfl (op_append rfl ap_42 rfl rfl (src_s rfl) (by first | omega | (simp; omega) | simp) (by first | omega | (simp; omega) | simp) ?_); refine AL.n ?_; refine AL.ra ?_; refine AL.nil ?_; change AW _ _ _ _ _; refine AW.seq ?_; refine AW.region ?_; refine AL.rm ?_; refine AL.r (rd_arith_add rfl rfl rfl (by first | exact IntWalk.i64_in _ (by omega) | rfl)) ?_; refine AL.ra ?_; refine AL.nil ?_; change AW _ _ _ _ _
     refine AW.goto ?_
     repeat with_reducible first | refine thenA_goto ?_ | refine inBlockA_goto ?_
     refine gotoI (.head _) ⟨k + 1, g + 1⟩ ?_ ?_ ?_ ?_
     ·dsimp only
      exact ⟨⟨h16, hW⟩, cutS_t hk (by omega) h41⟩
     ·intro n hn; cases hn; dsimp only; omega
     ·simp only [anys, upds, offs, List.set_cons_zero, List.set_cons_succ]; repeat (first | exact Wk.nil | refine Wk.same ?_ | refine Wk.any ?_)
     ·simp only [anys, upds, offs, List.set_cons_zero, List.set_cons_succ]; repeat (first | exact Sk.nil _ | refine Sk.same _ ?_ | refine Sk.scr _ (by decide) ?_ | refine Sk.eq _ (by exact congrArg (fun xs => TK.mk (g + 1) (.own 47 7 xs)) (take_map_next (f := FldD.cs) (by omega))) ?_)
    ·refine AW.skip ?_; change AW _ _ _ _ _; refine AW.seq ?_; refine AW.region ?_; refine AL.rm ?_; refine AL.r (rd_loadN_bx rfl ag_47 rfl rfl (Nat.le_of_ble_eq_true rfl) rfl) ?_; refine AL.op rfl (AOpB.op (op_call (own_c f (by omega)) rfl (by kernel_rfl) rfl (none) ?_)); rintro r rfl; refine AL.n ?_; refine AL.op rfl (AOpB.op (bs_set rfl ap_42 ze_47 rfl rfl ?_)); refine AL.n ?_; refine AL.op rfl (op_append rfl ap_42 rfl rfl (src_s rfl) (by first | omega | (simp; omega) | simp) (by first | omega | (simp; omega) | simp) ?_); refine AL.n ?_; refine AL.ra ?_; refine AL.nil ?_; change AW _ _ _ _ _; refine AW.seq ?_; refine AW.label ?_; change AW _ _ _ _ _; refine H _ _ (.tail _ (.head _)) ⟨k, g + 1⟩ ?_ ?_ _ _ ?_ ?_
     ·dsimp only
      exact ⟨⟨h16, hW⟩, by first | exact Nat.le_of_eq (cutS_f hk (by omega) h41) | omega, by omega⟩
     ·dsimp only
      omega
     ·simp only [anys, upds, offs, List.set_cons_zero, List.set_cons_succ]; repeat (first | exact Wk.nil | refine Wk.same ?_ | refine Wk.any ?_)
     ·simp only [anys, upds, offs, List.set_cons_zero, List.set_cons_succ]; repeat (first | exact Sk.nil _ | refine Sk.same _ ?_ | refine Sk.scr _ (by decide) ?_ | refine Sk.eq _ (by (have e : cutS l f.at_ = k := by first | exact cutS_f hk (by omega) h41 | omega); rw [e]; exact congrArg (fun xs => TK.mk (g + 1) (.own 47 7 xs)) put_first) ?_)
   ·refine AD.n ?_; refine AD.s 5 rfl ⟨_, _, rfl, rfl, rfl⟩ ?_; refine AD.s 6 rfl ⟨_, _, rfl, rfl, rfl⟩ ?_; refine AD.s 7 rfl ⟨_, _, rfl, rfl, rfl⟩ ?_; refine AD.s 8 rfl ⟨_, _, rfl, rfl, rfl⟩ ?_; refine AD.s 9 rfl ⟨_, _, rfl, rfl, rfl⟩ ?_; refine AD.s 10 rfl ⟨_, _, rfl, rfl, rfl⟩ ?_; refine AD.s 11 rfl ⟨_, _, rfl, rfl, rfl⟩ ?_; refine AD.s 12 rfl ⟨_, _, rfl, rfl, rfl⟩ ?_; refine AD.r 13 rfl (rd_pick_f rfl rfl rfl) rfl ?_; refine AD.done (by kernel_rfl) ?_; change AW _ _ _ _ _; refine AW.cond_f rfl ?_; refine AW.skip ?_; change AW _ _ _ _ _; refine AW.seq ?_; refine AW.region ?_; refine AL.rm ?_; refine AL.r (rd_loadN_bx rfl ag_47 rfl rfl (Nat.le_of_ble_eq_true rfl) rfl) ?_; refine AL.op rfl (AOpB.op (op_call (own_c f (by omega)) rfl (by kernel_rfl) rfl (none) ?_)); rintro r rfl; refine AL.n ?_; refine AL.op rfl (AOpB.op (bs_set rfl ap_42 ze_47 rfl rfl ?_)); refine AL.n ?_; refine AL.op rfl (op_append rfl ap_42 rfl rfl (src_s rfl) (by first | omega | (simp; omega) | simp) (by first | omega | (simp; omega) | simp) ?_)
    refine AL.n ?_; refine AL.ra ?_; refine AL.nil ?_; change AW _ _ _ _ _; refine AW.seq ?_; refine AW.label ?_; change AW _ _ _ _ _; refine H _ _ (.tail _ (.head _)) ⟨k, g + 1⟩ ?_ ?_ _ _ ?_ ?_
    ·dsimp only
     exact ⟨⟨h16, hW⟩, by first | exact Nat.le_of_eq (cutS_f hk (by omega) h41) | omega, by omega⟩
    ·dsimp only
     omega
    ·simp only [anys, upds, offs, List.set_cons_zero, List.set_cons_succ]; repeat (first | exact Wk.nil | refine Wk.same ?_ | refine Wk.any ?_)
    ·simp only [anys, upds, offs, List.set_cons_zero, List.set_cons_succ]; repeat (first | exact Sk.nil _ | refine Sk.same _ ?_ | refine Sk.scr _ (by decide) ?_ | refine Sk.eq _ (by (have e : cutS l f.at_ = k := by first | exact cutS_f hk (by omega) h41 | omega); rw [e]; exact congrArg (fun xs => TK.mk (g + 1) (.own 47 7 xs)) put_first) ?_)
  ·rintro ⟨k, g⟩ gs hJ H; refine AW.norm (by simp only [anys, upds, offs, List.set_cons_zero, List.set_cons_succ]; rfl) (by (try simp only [anys, upds, offs, List.set_cons_zero, List.set_cons_succ]); (try rfl)) ?_
   dsimp only at hJ
   obtain ⟨⟨h16, hW⟩, hk, hk2⟩ := hJ
   change AW _ _ _ _ _; refine AW.seq ?_; refine AW.seq ?_; refine AW.region ?_; refine AL.rm ?_; refine AL.rm ?_; refine AL.r (rd_len_sl rfl el_42 rfl) ?_; refine AL.r (rd_bin rfl rfl rfl (fun _ => rfl)) ?_; refine AL.nil ?_; change AW _ _ _ _ _; refine AW.cd rfl (fun h60 => ?_) (fun h60 => ?_)
   ·refine AW.seq ?_; refine AW.region ?_; refine AL.rm ?_; refine AL.rm ?_; refine AL.rm ?_; refine AL.r (rd_iaddr_sl rfl el_42 rfl rfl rfl (get_mapA (by omega)) rfl) ?_; refine AL.r (rd_loadN_ep rfl ag_47 rfl (Nat.le_of_ble_eq_true rfl) rfl) ?_; refine AL.op rfl (AOpB.op (op_call (own_c (l[k]'(by omega)) (hl.at_ (by omega))) rfl (by kernel_rfl) rfl (none) ?_)); rintro r rfl; refine AL.n ?_; refine AL.op rfl (AOpB.op (bs_set rfl ap_42 ze_47 rfl rfl ?_)); refine AL.n ?_; refine AL.op rfl (op_append rfl ap_42 rfl rfl (src_s rfl) (by have := put_len (l := l) (c := cutS l f.at_) (k := k) (f := f); simp only [List.length_map, List.length_cons, List.length_nil]; omega) (by have := put_len (l := l) (c := cutS l f.at_) (k := k) (f := f); simp only [List.length_map, List.length_cons, List.length_nil]; omega) ?_); refine AL.n ?_; refine AL.ra ?_; refine AL.nil ?_; change AW _ _ _ _ _; refine AW.seq ?_
    refine AW.region ?_; refine AL.rm ?_; refine AL.r (rd_arith_add rfl rfl rfl (by first | exact IntWalk.i64_in _ (by omega) | rfl)) ?_; refine AL.ra ?_; refine AL.nil ?_; change AW _ _ _ _ _; refine AW.goto ?_
    repeat with_reducible first | refine thenA_goto ?_ | refine inBlockA_goto ?_
    refine gotoI (.tail _ (.head _)) ⟨k + 1, g + 1⟩ ?_ ?_ ?_ ?_
    ·dsimp only
     exact ⟨⟨h16, hW⟩, by omega, by omega⟩
    ·intro n hn; cases hn; dsimp only; omega
    ·simp only [anys, upds, offs, List.set_cons_zero, List.set_cons_succ]; repeat (first | exact Wk.nil | refine Wk.same ?_ | refine Wk.any ?_)
    ·simp only [anys, upds, offs, List.set_cons_zero, List.set_cons_succ]; repeat (first | exact Sk.nil _ | refine Sk.same _ ?_ | refine Sk.scr _ (by decide) ?_ | refine Sk.eq _ (by exact congrArg (fun xs => TK.mk (g + 1) (.own 47 7 xs)) (put_next (g := FldD.cs) hk (by omega))) ?_)
   ·refine AW.skip ?_; change AW _ _ _ _ _; refine AW.seq ?_; refine AW.region ?_; refine AL.rm ?_; refine AL.ra ?_; refine AL.ra ?_; refine AL.nil ?_; change AW _ _ _ _ _; refine AW.ret ?_; change ResA _ _ _ _ _; refine res2 rfl (ResV.tmp rfl) (by first | rfl | exact setA_own rfl) (ResV.tmp rfl) rfl ?_; rw [hW, put_end (by omega)]; rfl
  ·intro H; refine AW.seq ?_; refine AW.seq ?_; refine AW.region ?_; refine AL.rm ?_; refine AL.op rfl (AOpB.op (op_call (sright_c l) rfl (by kernel_rfl) rfl (none) ?_)); rintro r rfl; refine AL.n ?_; refine AL.r (rd_un rfl rfl (fun _ => rfl)) ?_; refine AL.rm ?_; refine AL.fk (d := 11) rfl (fun h11 => ?_) (fun h11 => ?_)
   ·refine AL.n ?_; refine AL.rf ?_; refine AL.rf ?_; refine AL.rf ?_; refine AL.r (rd_pick_t rfl rfl rfl) ?_; refine AL.nil ?_; change AW _ _ _ _ _; refine AW.cond_t rfl ?_; refine AW.seq ?_; refine AW.region ?_; refine AL.ra ?_; refine AL.ra ?_; refine AL.nil ?_; change AW _ _ _ _ _; refine AW.ret ?_; change ResA _ _ _ _ _; refine res2 rfl (ResV.tmp rfl) rfl (ResV.tmp rfl) rfl ?_
    (have e : withS l f = ([], 5) := by (unfold withS; rw [if_pos (by simp_all)])); rw [e]; rfl
   ·refine AL.n ?_; refine AL.ro (rd_loadN_bx rfl ag_47 rfl rfl (Nat.le_of_ble_eq_true rfl) rfl) ?_; refine AL.on rfl rfl rfl (AOpB.op (op_call (right_c f) rfl (by kernel_rfl) rfl (none) ?_)); rintro r rfl; refine AL.n ?_; refine AL.ro (rd_un rfl rfl (fun _ => rfl)) ?_; refine AL.r (rd_pick_f rfl rfl rfl) ?_; refine AL.nil ?_; change AW _ _ _ _ _; refine AW.cd rfl (fun h15 => ?_) (fun h15 => ?_)
    ·refine AW.seq ?_; refine AW.region ?_; refine AL.ra ?_; refine AL.ra ?_; refine AL.nil ?_; change AW _ _ _ _ _; refine AW.ret ?_; change ResA _ _ _ _ _; refine res2 rfl (ResV.tmp rfl) rfl (ResV.tmp rfl) rfl ?_
     (have e : withS l f = ([], 5) := by (unfold withS; rw [if_pos (by simp_all)])); rw [e]; rfl
    ·refine AW.skip ?_; change AW _ _ _ _ _; refine AW.seq ?_; refine AW.seq ?_; refine AW.region ?_; refine AL.rm ?_; refine AL.r (rd_faddr_bx rfl fo_47_0 rfl rfl ⟨_, _, rfl⟩) ?_; refine AL.r (rd_loadN_bx rfl ag_44 rfl rfl (Nat.le_of_ble_eq_true rfl) rfl) ?_; refine AL.op rfl (AOpB.op (op_call (sindex_c l f.at_ (by omega)) rfl (by kernel_rfl) rfl (none) ?_)); rintro r rfl; refine AL.n ?_; refine AL.r (rd_bin rfl rfl rfl (fun _ => rfl)) ?_; refine AL.nil ?_; change AW _ _ _ _ _; refine AW.cd rfl (fun h20 => ?_) (fun h20 => ?_)
     ·refine AW.seq ?_; refine AW.region ?_; refine AL.ra ?_; refine AL.ra ?_; refine AL.nil ?_; change AW _ _ _ _ _; refine AW.ret ?_; change ResA _ _ _ _ _; refine res2 rfl (ResV.tmp rfl) rfl (ResV.tmp rfl) rfl ?_
      (have e : withS l f = ([], 7) := by (unfold withS; rw [if_neg (by simp_all), if_pos (by omega)])); rw [e]; rfl
     ·refine AW.skip ?_; change AW _ _ _ _ _; refine AW.seq ?_; refine AW.seq ?_; refine AW.region ?_; refine AL.rm ?_; refine AL.r (rd_len_sl rfl el_42 rfl) ?_; refine AL.r (rd_bin rfl rfl rfl (fun _ => rfl)) ?_; refine AL.nil ?_; change AW _ _ _ _ _; refine AW.cd rfl (fun h23 => ?_) (fun h23 => ?_)
      ·refine AW.seq ?_; refine AW.region ?_; refine AL.ra ?_; refine AL.ra ?_; refine AL.nil ?_; change AW _ _ _ _ _; refine AW.ret ?_; change ResA _ _ _ _ _; refine res2 rfl (ResV.tmp rfl) rfl (ResV.tmp rfl) rfl ?_
       (have e : withS l f = ([], 14) := by (unfold withS; rw [if_neg (by simp_all), if_neg (by omega), if_pos (by omega)])); rw [e]; rfl
      ·refine AW.skip ?_; change AW _ _ _ _ _; refine AW.seq ?_; refine AW.region ?_; refine AL.rm ?_; refine AL.r (rd_len_sl rfl el_42 rfl) ?_; refine AL.r (rd_arith_add rfl rfl rfl (by first | exact IntWalk.i64_in _ (by omega) | rfl)) ?_; refine AL.op rfl (AOpB.op (op_make0 1 rfl ap_42 rfl rfl (n := l.length + 1) (by simp) (by omega) (by omega) rfl ?_)); refine AL.n ?_; refine AL.ra ?_; refine AL.nil ?_; change AW _ _ _ _ _; refine AW.seq ?_; refine AW.region ?_; refine AL.ra ?_; refine AL.nil ?_; change AW _ _ _ _ _; refine AW.seq ?_; refine AW.label ?_; change AW _ _ _ _ _; refine H _ _ (.head _) ⟨0, 1⟩ ?_ _ _ ?_ ?_
       ·dsimp only
        exact ⟨⟨by omega, by unfold withS; rw [if_neg (by simp_all), if_neg (by omega), if_neg (by omega)]⟩, by omega⟩
       ·simp only [anys, upds, offs, List.set_cons_zero, List.set_cons_succ]; repeat (first | exact Wk.nil | refine Wk.same ?_ | refine Wk.any ?_)
       ·simp only [anys, upds, offs, List.set_cons_zero, List.set_cons_succ]; repeat (first | exact Sk.nil _ | refine Sk.same _ ?_ | refine Sk.scr _ (by decide) ?_)
end Go.Proofs.Ytdgcbhihmnhnaaa
