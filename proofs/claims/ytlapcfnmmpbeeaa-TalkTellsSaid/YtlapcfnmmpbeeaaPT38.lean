/- A part of a proof. -/
import Derived.Test.YtlapcfnmmpbeeaaPT33
set_option linter.unusedSimpArgs false
set_option linter.unusedVariables false
namespace Go.Proofs.Ytlapcfnmmpbeeaa
set_option maxRecDepth 100000
set_option maxRecDepth 100000
open Go.RowKit
def risT (l : List TagD) : Bool := decide (l.length ≤ 40) && (List.range l.length).all (okA tagB lessT l)
theorem risT_f {l : List TagD} {k : Nat} (hk : k < l.length) (h : okA tagB lessT l k = false) : risT l = false := by unfold risT; rw [okA_no hk h, Bool.and_false]
theorem risT_t {l : List TagD} (h1 : l.length ≤ 40) (h : ∀ i, i < l.length → okA tagB lessT l i = true) : risT l = true := by unfold risT; rw [okA_all h, decide_eq_true h1]; rfl
theorem risT_l {l : List TagD} (h : 40 < l.length) : risT l = false := by unfold risT; rw [decide_eq_false (by omega), Bool.false_and]
theorem rising_c (l : List TagD) : AC Try.prog 37 [.sl (l.map TagD.cs)] (fun r => r = .s (AB (risT l))) := by
  refine AC.of' 32 1 Try.func37 rfl ?_; change AW _ _ _ _ [TK.mk 0 .off]; refine AW.g (AL.ra ?_); refine AL.nil (AW.seq (AW.g (AL.rm ?_))); refine AL.r (lN el_24) ?_; refine AL.r qb ?_; refine AL.nil (AW.cd rfl (fun h7 => ?_) (fun h7 => ?_))
  ·refine AW.g (AL.ra ?_); refine AL.nil (AW.ret (r1t ?_)); rw [risT_l (by omega)]
  refine AW.skip (AW.seq (AW.g (AL.rm ?_))); refine AL.r (lN el_24) ?_; refine AL.rm ?_; refine AL.nil (AW.block (AW.loopM (ι := Nat) [2, 3, 4, 11, 12, 13, 14, 15, 16, 17, 18, 19, 20, 21, 22, 23, 24, 25, 26, 27, 28, 29, 30, 31, 32] (fun k => [(10, AI (k : Int))]) [0] (fun k => []) (fun k => k ≤ l.length ∧ ∀ i, i < k → okA tagB lessT l i = true) (fun k => l.length - k) 0 (⟨by omega, fun i hi => absurd hi (by omega)⟩) wk sk ?_)); rintro k gs hJ; refine AW.nm ?_; obtain ⟨hk, hok⟩ := hJ; refine AW.g (AL.r qb ?_); refine AL.nil (AW.seq (AW.cd rfl (fun h11 => ?_) (fun h11 => ?_)))
  ·refine AW.skip (AW.seq (AW.block (AW.g (AL.rm ?_)))); refine AL.r (rd_iaddr_sl rfl el_24 rfl rfl rfl (get_mapA (by omega)) rfl) ?_; refine AL.r (rd_loadN_ep rfl ag_51 rfl (Nat.le_of_ble_eq_true rfl) rfl) ?_; refine AL.oq (AOpB.op (oA 0 ze_51 ?_)); refine AL.n ?_; refine AL.ra ?_; refine AL.oq (oS sz_51 ?_); refine AL.n ?_; refine AL.nil (AW.seq (AW.draw (by kernel_rfl) ?_)); refine AD.r 0 rfl (qN ag_51) rfl ?_; refine AD.move 1 rfl (by kernel_rfl) rfl (op_call (tag_c (l[k]'(by omega))) rfl (by kernel_rfl) rfl (none) ?_); rintro r rfl; refine AD.n ?_; refine AD.r 2 rfl qu rfl ?_; refine AD.r 3 rfl (rd_move rfl rfl) rfl ?_; refine AD.fk (d := 18) rfl (fun h18 => ?_) (fun h18 => ?_)
   ·refine AD.n ?_; refine AD.s 4 rfl ⟨_, _, rfl, rfl, rfl⟩ ?_; refine AD.s 5 rfl ⟨_, _, rfl, rfl, rfl⟩ ?_; refine AD.s 6 rfl ⟨_, _, rfl, rfl, rfl⟩ ?_; refine AD.s 7 rfl ⟨_, _, rfl, rfl, rfl⟩ ?_; refine AD.s 8 rfl ⟨_, _, rfl, rfl, rfl⟩ ?_; refine AD.s 9 rfl ⟨_, _, rfl, rfl, rfl⟩ ?_; refine AD.s 10 rfl ⟨_, _, rfl, rfl, rfl⟩ ?_; refine AD.s 11 rfl ⟨_, _, rfl, rfl, rfl⟩ ?_; refine AD.s 12 rfl ⟨_, _, rfl, rfl, rfl⟩ ?_; refine AD.s 13 rfl ⟨_, _, rfl, rfl, rfl⟩ ?_; refine AD.s 14 rfl ⟨_, _, rfl, rfl, rfl⟩ ?_; refine AD.s 15 rfl ⟨_, _, rfl, rfl, rfl⟩ ?_; refine AD.r 16 rfl (rd_pick_t rfl rfl rfl) rfl ?_; refine AD.done (by kernel_rfl) ?_; change AW _ _ _ _ _; refine AW.cond_t rfl (AW.g (AL.ra ?_)); refine AL.nil (AW.ret (r1t ?_)); rw [risT_f (k := k) (by omega) (by rcases Nat.eq_zero_or_pos k with h0 | h0; (first | (exfalso; omega) | (subst h0; rw [okA_0 (by omega)]; simp_all)); (rw [okA_s (by omega) h0]; simp_all))]
   refine AD.n ?_; refine AD.r 4 rfl (rd_move rfl rfl) ⟨_, _, rfl, rfl, rfl⟩ ?_; refine AD.r 5 rfl qb ⟨_, _, rfl, rfl, rfl⟩ ?_; refine AD.r 6 rfl (rd_move rfl rfl) ⟨_, _, rfl, rfl, rfl⟩ ?_; refine AD.fk (d := 21) rfl (fun h21 => ?_) (fun h21 => ?_)
   ·refine AD.n ?_; refine AD.r 7 rfl (rd_move rfl rfl) ⟨_, _, rfl, rfl, rfl⟩ ?_; refine AD.r 8 rfl (rd_move rfl rfl) ⟨_, _, rfl, rfl, rfl⟩ ?_; refine AD.r 9 rfl (rd_arith_sub rfl rfl rfl (by first | exact IntWalk.i64_in _ (by omega) | rfl)) ⟨_, _, rfl, rfl, rfl⟩ ?_; refine AD.r 10 rfl (rd_iaddr_sl rfl el_24 rfl rfl (n := k - 1) (by omega) (get_mapA (by omega)) rfl) ⟨_, _, rfl, rfl, rfl⟩ ?_; refine AD.r 11 rfl (rd_loadN_ep rfl ag_51 rfl (Nat.le_of_ble_eq_true rfl) rfl) ⟨_, _, rfl, rfl, rfl⟩ ?_; refine AD.r 12 rfl (qN ag_51) ⟨_, _, rfl, rfl, rfl⟩ ?_; refine AD.move 13 rfl (by kernel_rfl) ⟨_, _, rfl, rfl, rfl⟩ (op_call (tless_c (l[k - 1]'(by omega)) (l[k]'(by omega))) rfl (by kernel_rfl) rfl (none) ?_); rintro r rfl; refine AD.n ?_; refine AD.r 14 rfl qu ⟨_, _, rfl, rfl, rfl⟩ ?_; refine AD.r 15 rfl (rd_pick_t rfl rfl rfl) ⟨_, _, rfl, rfl, rfl⟩ ?_; refine AD.r 16 rfl (rd_pick_f rfl rfl rfl) rfl ?_; refine AD.done (by kernel_rfl) ?_; change AW _ _ _ _ _; refine AW.cd rfl (fun h31 => ?_) (fun h31 => ?_)
    ·refine AW.g (AL.ra ?_); refine AL.nil (AW.ret (r1t ?_)); rw [risT_f (k := k) (by omega) (by rcases Nat.eq_zero_or_pos k with h0 | h0; (first | (exfalso; omega) | (subst h0; rw [okA_0 (by omega)]; simp_all)); (rw [okA_s (by omega) h0]; simp_all))]
    refine AW.skip ?_; change AW _ _ _ _ _; refine AW.region ?_; refine AL.r qA ?_; refine AL.rm ?_; refine AL.nil ?_; refine ⟨k + 1, ?_, by first | omega | (simp only []; omega), ?_, ?_⟩
    ·exact ⟨by omega, all_next hok (by first | (rw [okA_s (by omega) (by omega)]; simp_all [tagD_iff] <;> omega) | (obtain rfl : k = 0 := (by omega); rw [okA_0 (by omega)]; simp_all [tagD_iff] <;> omega))⟩
    ·exact wk
    exact sk
   refine AD.n ?_; refine AD.s 7 rfl ⟨_, _, rfl, rfl, rfl⟩ ?_; refine AD.s 8 rfl ⟨_, _, rfl, rfl, rfl⟩ ?_; refine AD.s 9 rfl ⟨_, _, rfl, rfl, rfl⟩ ?_; refine AD.s 10 rfl ⟨_, _, rfl, rfl, rfl⟩ ?_; refine AD.s 11 rfl ⟨_, _, rfl, rfl, rfl⟩ ?_; refine AD.s 12 rfl ⟨_, _, rfl, rfl, rfl⟩ ?_; refine AD.s 13 rfl ⟨_, _, rfl, rfl, rfl⟩ ?_; refine AD.s 14 rfl ⟨_, _, rfl, rfl, rfl⟩ ?_; refine AD.r 15 rfl (rd_pick_f rfl rfl rfl) ⟨_, _, rfl, rfl, rfl⟩ ?_; refine AD.r 16 rfl (rd_pick_f rfl rfl rfl) rfl ?_; refine AD.done (by kernel_rfl) ?_; change AW _ _ _ _ _; refine AW.cond_f rfl ?_; refine AW.skip ?_; change AW _ _ _ _ _; refine AW.region ?_; refine AL.r qA ?_; refine AL.rm ?_; refine AL.nil ?_; refine ⟨k + 1, ?_, by first | omega | (simp only []; omega), ?_, ?_⟩
   ·exact ⟨by omega, all_next hok (by first | (rw [okA_s (by omega) (by omega)]; simp_all [tagD_iff] <;> omega) | (obtain rfl : k = 0 := (by omega); rw [okA_0 (by omega)]; simp_all [tagD_iff] <;> omega))⟩
   ·exact wk
   exact sk
  refine AW.exit ?_; change AW _ _ _ _ _; refine AW.g (AL.ra ?_); refine AL.nil (AW.ret (r1t ?_)); rw [risT_t (by omega) (fun i hi => hok i (by omega))]
def chB {α : Type} (p : α → Bool) (l : List α) : Bool := decide (1 ≤ l.length) && decide (l.length ≤ 6) && l.all p
theorem chB_l {α : Type} {p : α → Bool} {l : List α} (h : l.length < 1 ∨ 6 < l.length) : chB p l = false := by
  unfold chB
  rcases h with h | h
  · rw [decide_eq_false (by omega)]; rfl
  rw [decide_eq_false (p := l.length ≤ 6) (by omega), Bool.and_false]; rfl
theorem chB_f {α : Type} {p : α → Bool} {l : List α} {k : Nat} (hk : k < l.length) (h : p l[k] = false) : chB p l = false := by
  unfold chB
  rw [show l.all p = false by rw [List.all_eq_false]; exact ⟨_, List.getElem_mem hk, by rw [h]; simp⟩, Bool.and_false]
theorem chB_t {α : Type} {p : α → Bool} {l : List α} (h1 : 1 ≤ l.length) (h2 : l.length ≤ 6) (h : ∀ i (hi : i < l.length), p l[i] = true) : chB p l = true := by
  unfold chB
  rw [decide_eq_true h1, decide_eq_true h2, show l.all p = true by rw [List.all_eq_true]; intro x hx; obtain ⟨i, hi, rfl⟩ := List.getElem_of_mem hx; exact h i hi]; rfl
theorem chunke_c (l : List EdgeD) : AC Try.prog 38 [.sl (l.map EdgeD.cs), .sc (.func (.func 39) #[] #[])] (fun r => r = .s (AB (chB edgeB l))) := by
  refine AC.of' 24 1 Try.func38 rfl ?_; change AW _ _ _ _ [TK.mk 0 .off]; refine AW.g (AL.ra ?_); refine AL.nil (AW.seq (AW.g (AL.rm ?_))); refine AL.r (lN el_25) ?_; refine AL.r qb ?_; refine AL.rm ?_; refine AL.fk (d := 10) rfl (fun h10 => ?_) (fun h10 => ?_)
  ·refine AL.n ?_; (iterate 3 refine AL.rf ?_); refine AL.r qt ?_; refine AL.nil (AW.cond_t rfl (AW.g (AL.ra ?_))); refine AL.nil (AW.ret (r1t ?_)); rw [chB_l (by first | (left; omega) | (right; omega) | (simp_all; omega))]
  refine AL.n ?_; refine AL.ro (rd_move rfl rfl) ?_; refine AL.ro (lN el_25) ?_; refine AL.ro qb ?_; refine AL.r qf ?_; refine AL.nil (AW.cd rfl (fun h14 => ?_) (fun h14 => ?_))
  ·refine AW.g (AL.ra ?_); refine AL.nil (AW.ret (r1t ?_)); rw [chB_l (by first | (left; omega) | (right; omega) | (simp_all; omega))]
  refine AW.skip (AW.seq (AW.g (AL.rm ?_))); refine AL.r (lN el_25) ?_; refine AL.rm ?_; refine AL.nil (AW.block (AW.loopM (ι := Nat) [4, 6, 18, 19, 20, 21, 22, 23, 24, 25] (fun k => [(17, AI (k : Int))]) [0] (fun k => []) (fun k => k ≤ l.length ∧ ∀ i (hi : i < l.length), i < k → edgeB l[i] = true) (fun k => l.length - k) 0 (⟨by omega, fun i _ hi => absurd hi (by omega)⟩) wk sk ?_)); rintro k gs hJ; refine AW.nm ?_; obtain ⟨hk, hok⟩ := hJ; refine AW.g (AL.r qb ?_); refine AL.nil (AW.seq (AW.cd rfl (fun h18 => ?_) (fun h18 => ?_)))
  ·refine AW.skip (AW.seq (AW.block (AW.g (AL.r (rd_iaddr_sl rfl el_25 rfl rfl rfl (get_E (by omega)) rfl) ?_)))); refine AL.r (rd_loadN_ep rfl ag_63 rfl (Nat.le_of_ble_eq_true rfl) rfl) ?_; refine AL.oq (AOpB.op (oA 0 ze_63 ?_)); refine AL.n ?_; refine AL.oq (oS sz_63 ?_); refine AL.b ?_; refine AL.nil (AW.g (AL.rm ?_)); refine AL.r (qN ag_63) ?_; refine AL.oq (AOpB.op (op_callv (tedge_c (l[k]'(by omega))) rfl rfl (by kernel_rfl) rfl (none) ?_)); rintro r rfl; refine AL.n ?_; refine AL.r qu ?_; refine AL.nil (AW.cd rfl (fun h24 => ?_) (fun h24 => ?_))
   ·refine AW.g (AL.ra ?_); refine AL.nil (AW.ret (r1t ?_)); rw [chB_f (k := k) (by omega) (by simpa using h24)]
   refine AW.skip ?_; change AW _ _ _ _ _; refine AW.region ?_; refine AL.r qA ?_; refine AL.rm ?_; refine AL.nil ?_; refine ⟨k + 1, ?_, by first | omega | (simp only []; omega), ?_, ?_⟩
   ·exact ⟨by omega, all_nextL (p := fun x => edgeB x = true) (by omega) hok (by simpa using h24)⟩
   ·exact wk
   exact sk
  refine AW.exit ?_; change AW _ _ _ _ _; refine AW.g (AL.ra ?_); refine AL.nil (AW.ret (r1t ?_)); rw [chB_t (by omega) (by omega) (fun i hi => hok i hi (by omega))]
theorem chunko_c (l : List OpD) : AC Try.prog 40 [.sl (l.map OpD.cs), .sc (.func (.func 41) #[] #[])] (fun r => r = .s (AB (chB rightO l))) := by
  refine AC.of' 24 1 Try.func40 rfl ?_; change AW _ _ _ _ [TK.mk 0 .off]; refine AW.g (AL.ra ?_); refine AL.nil (AW.seq (AW.g (AL.rm ?_))); refine AL.r (lN el_26) ?_; refine AL.r qb ?_; refine AL.rm ?_; refine AL.fk (d := 10) rfl (fun h10 => ?_) (fun h10 => ?_)
  ·refine AL.n ?_; (iterate 3 refine AL.rf ?_); refine AL.r qt ?_; refine AL.nil (AW.cond_t rfl (AW.g (AL.ra ?_))); refine AL.nil (AW.ret (r1t ?_)); rw [chB_l (by first | (left; omega) | (right; omega) | (simp_all; omega))]
  refine AL.n ?_; refine AL.ro (rd_move rfl rfl) ?_; refine AL.ro (lN el_26) ?_; refine AL.ro qb ?_; refine AL.r qf ?_; refine AL.nil (AW.cd rfl (fun h14 => ?_) (fun h14 => ?_))
  ·refine AW.g (AL.ra ?_); refine AL.nil (AW.ret (r1t ?_)); rw [chB_l (by first | (left; omega) | (right; omega) | (simp_all; omega))]
  refine AW.skip (AW.seq (AW.g (AL.rm ?_))); refine AL.r (lN el_26) ?_; refine AL.rm ?_; refine AL.nil (AW.block (AW.loopM (ι := Nat) [4, 6, 18, 19, 20, 21, 22, 23, 24, 25] (fun k => [(17, AI (k : Int))]) [0] (fun k => []) (fun k => k ≤ l.length ∧ ∀ i (hi : i < l.length), i < k → rightO l[i] = true) (fun k => l.length - k) 0 (⟨by omega, fun i _ hi => absurd hi (by omega)⟩) wk sk ?_)); rintro k gs hJ; refine AW.nm ?_; obtain ⟨hk, hok⟩ := hJ; refine AW.g (AL.r qb ?_); refine AL.nil (AW.seq (AW.cd rfl (fun h18 => ?_) (fun h18 => ?_)))
  ·refine AW.skip (AW.seq (AW.block (AW.g (AL.r (rd_iaddr_sl rfl el_26 rfl rfl rfl (get_O (by omega)) rfl) ?_)))); refine AL.r (rd_loadN_ep rfl ag_67 rfl (Nat.le_of_ble_eq_true rfl) rfl) ?_; refine AL.oq (AOpB.op (oA 0 ze_67 ?_)); refine AL.n ?_; refine AL.oq (oS sz_67 ?_); refine AL.b ?_; refine AL.nil (AW.g (AL.rm ?_)); refine AL.r (qN ag_67) ?_; refine AL.oq (AOpB.op (op_callv (oright_g (l[k]'(by omega))) rfl rfl (by kernel_rfl) rfl (none) ?_)); rintro r rfl; refine AL.n ?_; refine AL.r qu ?_; refine AL.nil (AW.cd rfl (fun h24 => ?_) (fun h24 => ?_))
   ·refine AW.g (AL.ra ?_); refine AL.nil (AW.ret (r1t ?_)); rw [chB_f (k := k) (by omega) (by simpa using h24)]
   refine AW.skip ?_; change AW _ _ _ _ _; refine AW.region ?_; refine AL.r qA ?_; refine AL.rm ?_; refine AL.nil ?_; refine ⟨k + 1, ?_, by first | omega | (simp only []; omega), ?_, ?_⟩
   ·exact ⟨by omega, all_nextL (p := fun x => rightO x = true) (by omega) hok (by simpa using h24)⟩
   ·exact wk
   exact sk
  refine AW.exit ?_; change AW _ _ _ _ _; refine AW.g (AL.ra ?_); refine AL.nil (AW.ret (r1t ?_)); rw [chB_t (by omega) (by omega) (fun i hi => hok i hi (by omega))]
end Go.Proofs.Ytlapcfnmmpbeeaa
