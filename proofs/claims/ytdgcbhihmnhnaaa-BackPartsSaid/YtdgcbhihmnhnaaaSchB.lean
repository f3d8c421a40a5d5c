/- Schemas, walked over abstract states, on. Conditions: no more than a million fields, of no more than a million cases. -/
import Derived.Test.YtdgcbhihmnhnaaaSchA
namespace Go.Proofs.Ytdgcbhihmnhnaaa
set_option linter.unusedSimpArgs false
set_option linter.unusedVariables false
set_option maxRecDepth 100000
open Go.RowKit

def smallS (l : List FldD) : Prop := l.length ≤ 1000000 ∧ ∀ f ∈ l, f.cases.length ≤ 1000000
theorem smallS.at_ {l : List FldD} (h : smallS l) {k : Nat} (hk : k < l.length) : l[k].cases.length ≤ 1000000000 := by have := h.2 _ (List.getElem_mem hk); omega
theorem sown_c (l : List FldD) (hl : smallS l) : AC Try.prog 41 [.sl (l.map FldD.cs)] (fun x => x = .o 47 7 (l.map FldD.cs)) := by
  have hl1 := hl.1
  refine AC.of' 21 4 Try.func41 rfl ?_
  change AW _ _ _ _ [TK.mk 0 .off, TK.mk 0 .off, TK.mk 0 .off, TK.mk 0 .off]
  refine AW.seq ?_
  refine AW.region ?_
  refine AL.ra ?_
  refine AL.nil ?_
  change AW _ _ _ _ _
  refine AW.seq ?_
  refine AW.region ?_
  refine AL.rm ?_
  refine AL.r (rd_len_sl rfl el_42 rfl) ?_
  refine AL.op rfl (AOpB.op (op_make0 0 rfl ap_42 rfl rfl rfl (by omega) (by omega) rfl ?_))
  refine AL.n ?_
  refine AL.ra ?_
  refine AL.nil ?_
  change AW _ _ _ _ _
  refine AW.seq ?_
  refine AW.seq ?_
  refine AW.region ?_
  refine AL.rm ?_
  refine AL.r (rd_len_sl rfl el_42 rfl) ?_
  refine AL.rm ?_
  refine AL.nil ?_
  change AW _ _ _ _ _
  refine AW.block ?_
  refine AW.loopM (ι := Nat × Nat) [5, 12, 13, 14, 15, 16, 17, 18, 19, 20] (fun ⟨k, g⟩ => [(11, AI (k : Int)), (3, .ow 0 g)]) [1, 2, 3] (fun ⟨k, g⟩ => [(0, ⟨g, .own 47 7 ((l.take k).map FldD.cs)⟩)]) (fun ⟨k, g⟩ => k ≤ l.length) (fun ⟨k, g⟩ => l.length - k) ⟨0, 1⟩ (Nat.zero_le _) (by simp only [anys, upds, offs, List.set_cons_zero, List.set_cons_succ]; repeat (first | exact Wk.nil | refine Wk.same ?_ | refine Wk.any ?_)) (by simp only [anys, upds, offs, List.set_cons_zero, List.set_cons_succ]; repeat (first | exact Sk.nil _ | refine Sk.same _ ?_ | refine Sk.scr _ (by decide) ?_)) ?_
  rintro ⟨k, g⟩ gs hJ
  refine AW.norm (by simp only [anys, upds, offs, List.set_cons_zero, List.set_cons_succ]; rfl) (by (try simp only [anys, upds, offs, List.set_cons_zero, List.set_cons_succ]); (try rfl)) ?_
  refine AW.seq ?_
  refine AW.region ?_
  refine AL.r (rd_bin rfl rfl rfl (fun _ => rfl)) ?_
  refine AL.nil ?_
  change AW _ _ _ _ _
  refine AW.seq ?_
  refine AW.cd rfl (fun h12 => ?_) (fun h12 => ?_)
  ·skip
   refine AW.skip ?_
   change AW _ _ _ _ _
   refine AW.seq ?_
   refine AW.block ?_
   refine AW.seq ?_
   refine AW.region ?_
   refine AL.r (rd_iaddr_sl rfl el_42 rfl rfl rfl (get_mapA (by omega)) rfl) ?_
   refine AL.r (rd_loadN_ep rfl ag_47 rfl (Nat.le_of_ble_eq_true rfl) rfl) ?_
   refine AL.op rfl (AOpB.op (op_alloc 1 rfl ze_47 rfl ?_))
   refine AL.n ?_
   refine AL.op rfl (op_store_ rfl rfl rfl rfl rfl sz_47 ?_)
   refine AL.n ?_
   refine AL.nil ?_
   change AW _ _ _ _ _
   refine AW.region ?_
   refine AL.rm ?_
   refine AL.r (rd_loadN_bx rfl ag_47 rfl rfl (Nat.le_of_ble_eq_true rfl) rfl) ?_
   refine AL.op rfl (AOpB.op (op_call (own_c (l[k]'(by omega)) (hl.at_ (by omega))) rfl (by kernel_rfl) rfl (none) ?_))
   rintro r rfl
   refine AL.n ?_
   refine AL.op rfl (AOpB.op (bs_set rfl ap_42 ze_47 rfl rfl ?_))
   refine AL.n ?_
   refine AL.op rfl (op_append rfl ap_42 rfl rfl (src_s rfl) (by first | omega | (simp; omega) | simp) (by first | omega | (simp; omega) | simp) ?_)
   refine AL.n ?_
   refine AL.ra ?_
   refine AL.nil ?_
   change AW _ _ _ _ _
   refine AW.region ?_
   refine AL.r (rd_arith_add rfl rfl rfl (by first | exact IntWalk.i64_in _ (by omega) | rfl)) ?_
   refine AL.rm ?_
   refine AL.nil ?_
   refine ⟨⟨k + 1, g + 1⟩, ?_, by first | omega | (simp only []; omega), ?_, ?_⟩
   ·show k + 1 ≤ l.length; omega
   ·simp only [anys, upds, offs, List.set_cons_zero, List.set_cons_succ]; repeat (first | exact Wk.nil | refine Wk.same ?_ | refine Wk.any ?_)
   ·simp only [anys, upds, offs, List.set_cons_zero, List.set_cons_succ]; repeat (first | exact Sk.nil _ | refine Sk.same _ ?_ | refine Sk.scr _ (by decide) ?_ | refine Sk.eq _ (by exact congrArg (fun xs => TK.mk (g + 1) (.own 47 7 xs)) (take_map_next (f := FldD.cs) (by omega))) ?_)
  ·skip
   refine AW.exit ?_
   change AW _ _ _ _ _
   refine AW.seq ?_
   refine AW.region ?_
   refine AL.rm ?_
   refine AL.ra ?_
   refine AL.nil ?_
   change AW _ _ _ _ _
   refine AW.ret ?_
   change ResA _ _ _ _ _
   refine res1o rfl (ResV.tmp rfl) rfl ?_
   rw [List.take_of_length_le (by omega)]
theorem sscope_c (l : List FldD) (n : Int) (hl : smallS l) : AC Try.prog 42 [.sl (l.map FldD.cs), AI n] (fun x => x = .s (.sl ((l.filter fun f => f.at_.scope == n).map FldD.cs))) := by
  have hl1 := hl.1
  refine AC.of' 24 4 Try.func42 rfl ?_
  change AW _ _ _ _ [TK.mk 0 .off, TK.mk 0 .off, TK.mk 0 .off, TK.mk 0 .off]
  refine AW.seq ?_
  refine AW.region ?_
  refine AL.ra ?_
  refine AL.nil ?_
  change AW _ _ _ _ _
  refine AW.seq ?_
  refine AW.region ?_
  refine AL.ra ?_
  refine AL.nil ?_
  change AW _ _ _ _ _
  refine AW.seq ?_
  refine AW.seq ?_
  refine AW.region ?_
  refine AL.nil_own 5 3 47 7 rfl rfl ?_
  refine AL.n ?_
  refine AL.rm ?_
  refine AL.r (rd_len_sl rfl el_42 rfl) ?_
  refine AL.rm ?_
  refine AL.nil ?_
  change AW _ _ _ _ _
  refine AW.block ?_
  refine AW.loopM (ι := Nat × Nat) [7, 11, 12, 13, 14, 15, 16, 17, 18, 19, 20, 21, 22, 23, 24] (fun ⟨k, g⟩ => [(10, AI (k : Int)), (5, .ow 3 g)]) [0, 1, 2] (fun ⟨k, g⟩ => [(3, ⟨g, owN 47 7 (((l.take k).filter fun f => f.at_.scope == n).map FldD.cs)⟩)]) (fun ⟨k, g⟩ => k ≤ l.length) (fun ⟨k, g⟩ => l.length - k) ⟨0, 1⟩ (Nat.zero_le _) (by simp only [anys, upds, offs, List.set_cons_zero, List.set_cons_succ]; repeat (first | exact Wk.nil | refine Wk.same ?_ | refine Wk.any ?_)) (by simp only [anys, upds, offs, List.set_cons_zero, List.set_cons_succ]; repeat (first | exact Sk.nil _ | refine Sk.same _ ?_ | refine Sk.scr _ (by decide) ?_)) ?_
  rintro ⟨k, g⟩ gs hJ
  refine AW.norm (by simp only [anys, upds, offs, List.set_cons_zero, List.set_cons_succ]; rfl) (by (try simp only [anys, upds, offs, List.set_cons_zero, List.set_cons_succ]); (try rfl)) ?_
  refine AW.seq ?_
  refine AW.region ?_
  refine AL.r (rd_bin rfl rfl rfl (fun _ => rfl)) ?_
  refine AL.nil ?_
  change AW _ _ _ _ _
  refine AW.seq ?_
  refine AW.cd rfl (fun h11 => ?_) (fun h11 => ?_)
  ·skip
   refine AW.skip ?_
   change AW _ _ _ _ _
   refine AW.seq ?_
   refine AW.block ?_
   refine AW.seq ?_
   refine AW.region ?_
   refine AL.r (rd_iaddr_sl rfl el_42 rfl rfl rfl (get_mapA (by omega)) rfl) ?_
   refine AL.r (rd_loadN_ep rfl ag_47 rfl (Nat.le_of_ble_eq_true rfl) rfl) ?_
   refine AL.op rfl (AOpB.op (op_alloc 0 rfl ze_47 rfl ?_))
   refine AL.n ?_
   refine AL.op rfl (op_store_ rfl rfl rfl rfl rfl sz_47 ?_)
   refine AL.n ?_
   refine AL.nil ?_
   change AW _ _ _ _ _
   refine AW.seq ?_
   refine AW.region ?_
   refine AL.r (rd_faddr_bx rfl fo_47_0 rfl rfl ⟨_, _, rfl⟩) ?_
   refine AL.r (rd_faddr_bx rfl fo_44_0 rfl rfl ⟨_, _, rfl⟩) ?_
   refine AL.r (rd_load_bx rfl ag_3 rfl rfl rfl) ?_
   refine AL.rm ?_
   refine AL.r (rd_bin rfl rfl rfl (fun _ => rfl)) ?_
   refine AL.nil ?_
   change AW _ _ _ _ _
   refine AW.cd rfl (fun h18 => ?_) (fun h18 => ?_)
   ·skip
    refine AW.region ?_
    refine AL.rm ?_
    refine AL.r (rd_loadN_bx rfl ag_47 rfl rfl (Nat.le_of_ble_eq_true rfl) rfl) ?_
    refine AL.op rfl (AOpB.op (op_call (own_c (l[k]'(by omega)) (hl.at_ (by omega))) rfl (by kernel_rfl) rfl (none) ?_))
    rintro r rfl
    refine AL.n ?_
    refine AL.op rfl (AOpB.op (bs_set rfl ap_42 ze_47 rfl rfl ?_))
    refine AL.n ?_
    refine AL.op rfl (op_appendN rfl ap_42 rfl rfl (src_s rfl) (by simp) (by (have := List.length_filter_le (fun f : FldD => f.at_.scope == n) (l.take k)); (have h2 := List.length_take_le k l); simp only [List.length_map, List.length_cons, List.length_nil]; omega) (by (have := List.length_filter_le (fun f : FldD => f.at_.scope == n) (l.take k)); (have h2 := List.length_take_le k l); simp only [List.length_map, List.length_cons, List.length_nil]; omega) ?_)
    refine AL.n ?_
    refine AL.ra ?_
    refine AL.nil ?_
    change AW _ _ _ _ _
    refine AW.region ?_
    refine AL.r (rd_arith_add rfl rfl rfl (by first | exact IntWalk.i64_in _ (by omega) | rfl)) ?_
    refine AL.rm ?_
    refine AL.nil ?_
    refine ⟨⟨k + 1, g + 1⟩, ?_, by first | omega | (simp only []; omega), ?_, ?_⟩
    ·show k + 1 ≤ l.length; omega
    ·simp only [anys, upds, offs, List.set_cons_zero, List.set_cons_succ]; repeat (first | exact Wk.nil | refine Wk.same ?_ | refine Wk.any ?_)
    ·simp only [anys, upds, offs, List.set_cons_zero, List.set_cons_succ]; repeat (first | exact Sk.nil _ | refine Sk.same _ ?_ | refine Sk.scr _ (by decide) ?_ | refine Sk.eq _ (by first | exact congrArg (fun xs => TK.mk (g + 1) (owN 47 7 xs)) (take_filter_t (p := fun f : FldD => f.at_.scope == n) (f := FldD.cs) (by omega) (by simp only [beq_iff_eq]; exact h18)) | exact congrArg (fun xs => TK.mk g (owN 47 7 xs)) (take_filter_f (p := fun f : FldD => f.at_.scope == n) (f := FldD.cs) (by omega) (by simp only [beq_eq_false_iff_ne]; exact h18))) ?_)
   ·skip
    refine AW.skip ?_
    change AW _ _ _ _ _
    refine AW.region ?_
    refine AL.r (rd_arith_add rfl rfl rfl (by first | exact IntWalk.i64_in _ (by omega) | rfl)) ?_
    refine AL.rm ?_
    refine AL.nil ?_
    refine ⟨⟨k + 1, g⟩, ?_, by first | omega | (simp only []; omega), ?_, ?_⟩
    ·show k + 1 ≤ l.length; omega
    ·simp only [anys, upds, offs, List.set_cons_zero, List.set_cons_succ]; repeat (first | exact Wk.nil | refine Wk.same ?_ | refine Wk.any ?_)
    ·simp only [anys, upds, offs, List.set_cons_zero, List.set_cons_succ]; repeat (first | exact Sk.nil _ | refine Sk.same _ ?_ | refine Sk.scr _ (by decide) ?_ | refine Sk.eq _ (by first | exact congrArg (fun xs => TK.mk (g + 1) (owN 47 7 xs)) (take_filter_t (p := fun f : FldD => f.at_.scope == n) (f := FldD.cs) (by omega) (by simp only [beq_iff_eq]; exact h18)) | exact congrArg (fun xs => TK.mk g (owN 47 7 xs)) (take_filter_f (p := fun f : FldD => f.at_.scope == n) (f := FldD.cs) (by omega) (by simp only [beq_eq_false_iff_ne]; exact h18))) ?_)
  ·skip
   refine AW.exit ?_
   change AW _ _ _ _ _
   refine AW.seq ?_
   refine AW.region ?_
   refine AL.rm ?_
   refine AL.ra ?_
   refine AL.nil ?_
   change AW _ _ _ _ _
   refine AW.ret ?_
   change ResA _ _ _ _ _
   refine res1 rfl (ResV.tmp rfl) (setA_owN rfl) ?_
   rw [List.take_of_length_le (by omega)]
def findS (l : List FldD) (r : RefD) : FldD × Int := match l.find? (fun f => decide (f.at_ = r)) with | some f => (f, 0) | none => (⟨⟨0, [], []⟩, 0, [], [], 0⟩, 6)
theorem idxS_some {l : List FldD} {r : RefD} {i : Nat} (h : l.findIdx? (fun f => decide (f.at_ = r)) = some i) : ∃ hi : i < l.length, l.find? (fun f => decide (f.at_ = r)) = some l[i] := by
  have h1 := List.findIdx?_eq_some_iff_getElem.1 h
  obtain ⟨hi, h2, h3⟩ := h1
  refine ⟨hi, ?_⟩
  rw [List.find?_eq_some_iff_getElem]
  exact ⟨h2, i, hi, rfl, fun j hj => by simpa using h3 j hj⟩
theorem sfind_c (l : List FldD) (r : RefD) (hl : smallS l) : AC Try.prog 44 [.sl (l.map FldD.cs), r.av] (fun x => x = .s (.tu [(findS l r).1.av, AI (findS l r).2])) := by
  have hl1 := hl.1
  cases hf : l.findIdx? (fun f => decide (f.at_ = r)) with
  | none =>
    have h2 : idxS l r = -1 := by unfold idxS; rw [hf]
    have h3 : l.find? (fun f => decide (f.at_ = r)) = none := by
      rw [List.find?_eq_none]
      have := List.findIdx?_eq_none_iff.1 hf
      intro x hx
      have := this x hx
      simpa using this
    have h4 : findS l r = (⟨⟨0, [], []⟩, 0, [], [], 0⟩, 6) := by unfold findS; rw [h3]
    rw [h4]
    refine AC.of' 16 2 Try.func44 rfl ?_
    change AW _ _ _ _ [TK.mk 0 .off, TK.mk 0 .off]
    refine AW.seq ?_
    refine AW.region ?_
    refine AL.op rfl (AOpB.op (op_box 0 rfl rfl rfl rfl rfl ?_))
    refine AL.n ?_
    refine AL.op rfl (AOpB.op (op_alloc 1 rfl ze_47 rfl ?_))
    refine AL.n ?_
    refine AL.ra ?_
    refine AL.nil ?_
    change AW _ _ _ _ _
    refine AW.seq ?_
    refine AW.region ?_
    refine AL.rm ?_
    refine AL.r (rd_loadN_bx rfl ag_44 rfl rfl (Nat.le_of_ble_eq_true rfl) rfl) ?_
    refine AL.op rfl (AOpB.op (op_call (sindex_c l r (by omega)) rfl (by kernel_rfl) rfl (none) ?_))
    rintro r rfl
    refine AL.n ?_
    rw [h2]
    refine AL.ra ?_
    refine AL.nil ?_
    change AW _ _ _ _ _
    refine AW.seq ?_
    refine AW.seq ?_
    refine AW.region ?_
    refine AL.rm ?_
    refine AL.r (rd_bin rfl rfl rfl (fun _ => rfl)) ?_
    refine AL.nil ?_
    change AW _ _ _ _ _
    refine AW.cd rfl (fun h11 => ?_) (fun h11 => ?_)
    ·skip
     refine AW.seq ?_
     refine AW.region ?_
     refine AL.r (rd_build rfl pl_47 ze_47 rfl rfl) ?_
     refine AL.op rfl (op_store_ rfl rfl rfl rfl rfl sz_47 ?_)
     refine AL.n ?_
     refine AL.ra ?_
     refine AL.nil ?_
     change AW _ _ _ _ _
     refine AW.ret ?_
     change ResA _ _ _ _ _
     refine res2 rfl (ResV.cells rfl rfl ag_47 (Nat.le_of_ble_eq_true rfl) rfl) rfl (ResV.tmp rfl) rfl ?_
     rfl
    ·skip
     refine AW.skip ?_
     change AW _ _ _ _ _
     refine AW.seq ?_
     exact absurd (by decide : (-1 : Int) < 0) h11
  | some i =>
    obtain ⟨hi, h3⟩ := idxS_some hf
    have h2 : idxS l r = (i : Int) := by unfold idxS; rw [hf]
    have h4 : findS l r = (l[i], 0) := by unfold findS; rw [h3]
    rw [h4]
    refine AC.of' 16 2 Try.func44 rfl ?_
    change AW _ _ _ _ [TK.mk 0 .off, TK.mk 0 .off]
    refine AW.seq ?_
    refine AW.region ?_
    refine AL.op rfl (AOpB.op (op_box 0 rfl rfl rfl rfl rfl ?_))
    refine AL.n ?_
    refine AL.op rfl (AOpB.op (op_alloc 1 rfl ze_47 rfl ?_))
    refine AL.n ?_
    refine AL.ra ?_
    refine AL.nil ?_
    change AW _ _ _ _ _
    refine AW.seq ?_
    refine AW.region ?_
    refine AL.rm ?_
    refine AL.r (rd_loadN_bx rfl ag_44 rfl rfl (Nat.le_of_ble_eq_true rfl) rfl) ?_
    refine AL.op rfl (AOpB.op (op_call (sindex_c l r (by omega)) rfl (by kernel_rfl) rfl (none) ?_))
    rintro r rfl
    refine AL.n ?_
    rw [h2]
    refine AL.ra ?_
    refine AL.nil ?_
    change AW _ _ _ _ _
    refine AW.seq ?_
    refine AW.seq ?_
    refine AW.region ?_
    refine AL.rm ?_
    refine AL.r (rd_bin rfl rfl rfl (fun _ => rfl)) ?_
    refine AL.nil ?_
    change AW _ _ _ _ _
    refine AW.cd rfl (fun h11 => ?_) (fun h11 => ?_)
    ·skip
     refine AW.seq ?_
     exact absurd h11 (by omega)
    ·skip
     refine AW.skip ?_
     change AW _ _ _ _ _
     refine AW.seq ?_
     refine AW.region ?_
     refine AL.rm ?_
     refine AL.rm ?_
     refine AL.r (rd_iaddr_sl rfl el_42 rfl rfl rfl (get_mapA hi) rfl) ?_
     refine AL.r (rd_loadN_ep rfl ag_47 rfl (Nat.le_of_ble_eq_true rfl) rfl) ?_
     refine AL.op rfl (AOpB.op (op_call (own_c (l[i]'hi) (hl.at_ hi)) rfl (by kernel_rfl) rfl (none) ?_))
     rintro r rfl
     refine AL.n ?_
     refine AL.op rfl (op_store_ rfl rfl rfl rfl rfl sz_47 ?_)
     refine AL.n ?_
     refine AL.ra ?_
     refine AL.nil ?_
     change AW _ _ _ _ _
     refine AW.ret ?_
     change ResA _ _ _ _ _
     refine res2 rfl (ResV.cells rfl rfl ag_47 (Nat.le_of_ble_eq_true rfl) rfl) rfl (ResV.tmp rfl) rfl ?_
     rfl
theorem rright14 (l : List FldD) (hl : smallS l) : AC Try.prog 64 [.sl (l.map FldD.cs)] (fun x => x = .s (AB (rightS l))) := by
  refine AC.of' 37 0 Try.func64 rfl ?_
  change AW _ _ _ _ []
  refine AW.seq ?_
  refine AW.region ?_
  refine AL.ra ?_
  refine AL.nil ?_
  change AW _ _ _ _ _
  refine AW.seq ?_
  refine AW.seq ?_
  refine AW.region ?_
  refine AL.rm ?_
  refine AL.r (rd_len_sl rfl el_42 rfl) ?_
  refine AL.r (rd_bin rfl rfl rfl (fun _ => rfl)) ?_
  refine AL.nil ?_
  change AW _ _ _ _ _
  refine AW.cd rfl (fun h6 => ?_) (fun h6 => ?_)
  ·skip
   refine AW.seq ?_
   refine AW.region ?_
   refine AL.ra ?_
   refine AL.nil ?_
   change AW _ _ _ _ _
   refine AW.ret ?_
   change ResA _ _ _ _ _
   refine res1 rfl (ResV.tmp rfl) rfl ?_
   rw [rightS_long (by omega)]
  ·skip
   refine AW.skip ?_
   change AW _ _ _ _ _
   refine AW.seq ?_
   refine AW.seq ?_
   refine AW.region ?_
   refine AL.ra ?_
   refine AL.nil ?_
   change AW _ _ _ _ _
   refine AW.block ?_
   refine AW.loopM (ι := Nat) [2, 7, 8, 9, 10, 11, 12, 13, 14, 15, 16, 17, 18, 19, 20, 21, 22, 23, 24, 25, 26, 27, 28, 29, 30, 31, 32, 33, 34, 35, 36, 37] (fun k => [(3, AI (k : Int))]) [] (fun k => []) (fun k => k ≤ l.length ∧ ∀ i, i < k → okS l i = true) (fun k => l.length - k) 0 (⟨by omega, fun i hi => absurd hi (by omega)⟩) (by simp only [anys, upds, offs, List.set_cons_zero, List.set_cons_succ]; repeat (first | exact Wk.nil | refine Wk.same ?_ | refine Wk.any ?_)) (by simp only [anys, upds, offs, List.set_cons_zero, List.set_cons_succ]; repeat (first | exact Sk.nil _ | refine Sk.same _ ?_ | refine Sk.scr _ (by decide) ?_)) ?_
   rintro k gs hJ
   refine AW.norm (by simp only [anys, upds, offs, List.set_cons_zero, List.set_cons_succ]; rfl) (by (try simp only [anys, upds, offs, List.set_cons_zero, List.set_cons_succ]); (try rfl)) ?_
   obtain ⟨hk, hok⟩ := hJ
   refine AW.seq ?_
   refine AW.seq ?_
   refine AW.region ?_
   refine AL.rm ?_
   refine AL.rm ?_
   refine AL.r (rd_len_sl rfl el_42 rfl) ?_
   refine AL.r (rd_bin rfl rfl rfl (fun _ => rfl)) ?_
   refine AL.nil ?_
   change AW _ _ _ _ _
   refine AW.cd rfl (fun h10 => ?_) (fun h10 => ?_)
   ·skip
    refine AW.skip ?_
    change AW _ _ _ _ _
    refine AW.seq ?_
    refine AW.block ?_
    refine AW.seq ?_
    refine AW.draw (by kernel_rfl) ?_
    refine AD.r 0 rfl (rd_move rfl rfl) rfl ?_
    refine AD.r 1 rfl (rd_move rfl rfl) rfl ?_
    refine AD.r 2 rfl (rd_iaddr_sl rfl el_42 rfl rfl rfl (get_mapA (by omega)) rfl) rfl ?_
    refine AD.r 3 rfl (rd_loadN_ep rfl ag_47 rfl (Nat.le_of_ble_eq_true rfl) rfl) rfl ?_
    refine AD.move 4 rfl (by kernel_rfl) rfl (op_call (rright13 (l[k]'(by omega)) (by have := hl.at_ (k := k) (by omega); omega)) rfl (by kernel_rfl) rfl (none) ?_)
    rintro r rfl
    refine AD.n ?_
    refine AD.r 5 rfl (rd_un rfl rfl (fun _ => rfl)) rfl ?_
    refine AD.r 6 rfl (rd_move rfl rfl) rfl ?_
    refine AD.fk (d := 19) rfl (fun h19 => ?_) (fun h19 => ?_)
    ·skip
     refine AD.n ?_
     refine AD.s 7 rfl ⟨_, _, rfl, rfl, rfl⟩ ?_
     refine AD.s 8 rfl ⟨_, _, rfl, rfl, rfl⟩ ?_
     refine AD.s 9 rfl ⟨_, _, rfl, rfl, rfl⟩ ?_
     refine AD.s 10 rfl ⟨_, _, rfl, rfl, rfl⟩ ?_
     refine AD.s 11 rfl ⟨_, _, rfl, rfl, rfl⟩ ?_
     refine AD.s 12 rfl ⟨_, _, rfl, rfl, rfl⟩ ?_
     refine AD.s 13 rfl ⟨_, _, rfl, rfl, rfl⟩ ?_
     refine AD.s 14 rfl ⟨_, _, rfl, rfl, rfl⟩ ?_
     refine AD.s 15 rfl ⟨_, _, rfl, rfl, rfl⟩ ?_
     refine AD.s 16 rfl ⟨_, _, rfl, rfl, rfl⟩ ?_
     refine AD.s 17 rfl ⟨_, _, rfl, rfl, rfl⟩ ?_
     refine AD.s 18 rfl ⟨_, _, rfl, rfl, rfl⟩ ?_
     refine AD.s 19 rfl ⟨_, _, rfl, rfl, rfl⟩ ?_
     refine AD.s 20 rfl ⟨_, _, rfl, rfl, rfl⟩ ?_
     refine AD.s 21 rfl ⟨_, _, rfl, rfl, rfl⟩ ?_
     refine AD.s 22 rfl ⟨_, _, rfl, rfl, rfl⟩ ?_
     refine AD.s 23 rfl ⟨_, _, rfl, rfl, rfl⟩ ?_
     refine AD.r 24 rfl (rd_pick_t rfl rfl rfl) rfl ?_
     refine AD.done (by kernel_rfl) ?_
     change AW _ _ _ _ _
     refine AW.cond_t rfl ?_
     refine AW.seq ?_
     refine AW.region ?_
     refine AL.ra ?_
     refine AL.nil ?_
     change AW _ _ _ _ _
     refine AW.ret ?_
     change ResA _ _ _ _ _
     refine res1 rfl (ResV.tmp rfl) rfl ?_
     rw [rightS_f (k := k) (by omega) (by first | exact okS_rf (by omega) (by simpa using h19) | (rw [okS_s (by omega) (by omega)]; simp_all))]
    ·skip
     refine AD.n ?_
     refine AD.r 7 rfl (rd_move rfl rfl) ⟨_, _, rfl, rfl, rfl⟩ ?_
     refine AD.r 8 rfl (rd_bin rfl rfl rfl (fun _ => rfl)) ⟨_, _, rfl, rfl, rfl⟩ ?_
     refine AD.r 9 rfl (rd_move rfl rfl) ⟨_, _, rfl, rfl, rfl⟩ ?_
     refine AD.fk (d := 22) rfl (fun h22 => ?_) (fun h22 => ?_)
     ·skip
      refine AD.n ?_
      refine AD.r 10 rfl (rd_move rfl rfl) ⟨_, _, rfl, rfl, rfl⟩ ?_
      refine AD.r 11 rfl (rd_move rfl rfl) ⟨_, _, rfl, rfl, rfl⟩ ?_
      refine AD.r 12 rfl (rd_arith_sub rfl rfl rfl (by first | exact IntWalk.i64_in _ (by omega) | rfl)) ⟨_, _, rfl, rfl, rfl⟩ ?_
      refine AD.r 13 rfl (rd_iaddr_sl rfl el_42 rfl rfl (n := k - 1) (by omega) (get_mapA (by omega)) rfl) ⟨_, _, rfl, rfl, rfl⟩ ?_
      refine AD.r 14 rfl (rd_faddr_ep rfl fo_47_0 rfl) ⟨_, _, rfl, rfl, rfl⟩ ?_
      refine AD.r 15 rfl (rd_loadN_ep rfl ag_44 rfl (Nat.le_of_ble_eq_true rfl) rfl) ⟨_, _, rfl, rfl, rfl⟩ ?_
      refine AD.r 16 rfl (rd_move rfl rfl) ⟨_, _, rfl, rfl, rfl⟩ ?_
      refine AD.r 17 rfl (rd_move rfl rfl) ⟨_, _, rfl, rfl, rfl⟩ ?_
      refine AD.r 18 rfl (rd_iaddr_sl rfl el_42 rfl rfl rfl (get_mapA (by omega)) rfl) ⟨_, _, rfl, rfl, rfl⟩ ?_
      refine AD.r 19 rfl (rd_faddr_ep rfl fo_47_0 rfl) ⟨_, _, rfl, rfl, rfl⟩ ?_
      refine AD.r 20 rfl (rd_loadN_ep rfl ag_44 rfl (Nat.le_of_ble_eq_true rfl) rfl) ⟨_, _, rfl, rfl, rfl⟩ ?_
      refine AD.move 21 rfl (by kernel_rfl) ⟨_, _, rfl, rfl, rfl⟩ (op_call (rless_c (l[k - 1]'(by omega)).at_ (l[k]'(by omega)).at_) rfl (by kernel_rfl) rfl (none) ?_)
      rintro r rfl
      refine AD.n ?_
      refine AD.r 22 rfl (rd_un rfl rfl (fun _ => rfl)) ⟨_, _, rfl, rfl, rfl⟩ ?_
      refine AD.r 23 rfl (rd_pick_t rfl rfl rfl) ⟨_, _, rfl, rfl, rfl⟩ ?_
      refine AD.r 24 rfl (rd_pick_f rfl rfl rfl) rfl ?_
      refine AD.done (by kernel_rfl) ?_
      change AW _ _ _ _ _
      refine AW.cd rfl (fun h37 => ?_) (fun h37 => ?_)
      ·skip
       refine AW.seq ?_
       refine AW.region ?_
       refine AL.ra ?_
       refine AL.nil ?_
       change AW _ _ _ _ _
       refine AW.ret ?_
       change ResA _ _ _ _ _
       refine res1 rfl (ResV.tmp rfl) rfl ?_
       rw [rightS_f (k := k) (by omega) (by first | exact okS_rf (by omega) (by simpa using h19) | (rw [okS_s (by omega) (by omega)]; simp_all))]
      ·skip
       refine AW.skip ?_
       change AW _ _ _ _ _
       refine AW.region ?_
       refine AL.rm ?_
       refine AL.r (rd_arith_add rfl rfl rfl (by first | exact IntWalk.i64_in _ (by omega) | rfl)) ?_
       refine AL.ra ?_
       refine AL.nil ?_
       refine ⟨k + 1, ?_, by first | omega | (simp only []; omega), ?_, ?_⟩
       ·exact ⟨by omega, all_next hok (by first | (rw [okS_s (by omega) (by omega)]; simp_all) | (obtain rfl : k = 0 := (by omega); rw [okS_0 (by omega)]; simp_all))⟩
       ·simp only [anys, upds, offs, List.set_cons_zero, List.set_cons_succ]; repeat (first | exact Wk.nil | refine Wk.same ?_ | refine Wk.any ?_)
       ·simp only [anys, upds, offs, List.set_cons_zero, List.set_cons_succ]; repeat (first | exact Sk.nil _ | refine Sk.same _ ?_ | refine Sk.scr _ (by decide) ?_)
     ·skip
      refine AD.n ?_
      refine AD.s 10 rfl ⟨_, _, rfl, rfl, rfl⟩ ?_
      refine AD.s 11 rfl ⟨_, _, rfl, rfl, rfl⟩ ?_
      refine AD.s 12 rfl ⟨_, _, rfl, rfl, rfl⟩ ?_
      refine AD.s 13 rfl ⟨_, _, rfl, rfl, rfl⟩ ?_
      refine AD.s 14 rfl ⟨_, _, rfl, rfl, rfl⟩ ?_
      refine AD.s 15 rfl ⟨_, _, rfl, rfl, rfl⟩ ?_
      refine AD.s 16 rfl ⟨_, _, rfl, rfl, rfl⟩ ?_
      refine AD.s 17 rfl ⟨_, _, rfl, rfl, rfl⟩ ?_
      refine AD.s 18 rfl ⟨_, _, rfl, rfl, rfl⟩ ?_
      refine AD.s 19 rfl ⟨_, _, rfl, rfl, rfl⟩ ?_
      refine AD.s 20 rfl ⟨_, _, rfl, rfl, rfl⟩ ?_
      refine AD.s 21 rfl ⟨_, _, rfl, rfl, rfl⟩ ?_
      refine AD.s 22 rfl ⟨_, _, rfl, rfl, rfl⟩ ?_
      refine AD.r 23 rfl (rd_pick_f rfl rfl rfl) ⟨_, _, rfl, rfl, rfl⟩ ?_
      refine AD.r 24 rfl (rd_pick_f rfl rfl rfl) rfl ?_
      refine AD.done (by kernel_rfl) ?_
      change AW _ _ _ _ _
      refine AW.cond_f rfl ?_
      refine AW.skip ?_
      change AW _ _ _ _ _
      refine AW.region ?_
      refine AL.rm ?_
      refine AL.r (rd_arith_add rfl rfl rfl (by first | exact IntWalk.i64_in _ (by omega) | rfl)) ?_
      refine AL.ra ?_
      refine AL.nil ?_
      refine ⟨k + 1, ?_, by first | omega | (simp only []; omega), ?_, ?_⟩
      ·exact ⟨by omega, all_next hok (by first | (rw [okS_s (by omega) (by omega)]; simp_all) | (obtain rfl : k = 0 := (by omega); rw [okS_0 (by omega)]; simp_all))⟩
      ·simp only [anys, upds, offs, List.set_cons_zero, List.set_cons_succ]; repeat (first | exact Wk.nil | refine Wk.same ?_ | refine Wk.any ?_)
      ·simp only [anys, upds, offs, List.set_cons_zero, List.set_cons_succ]; repeat (first | exact Sk.nil _ | refine Sk.same _ ?_ | refine Sk.scr _ (by decide) ?_)
   ·skip
    refine AW.exit ?_
    change AW _ _ _ _ _
    refine AW.seq ?_
    refine AW.region ?_
    refine AL.ra ?_
    refine AL.nil ?_
    change AW _ _ _ _ _
    refine AW.ret ?_
    change ResA _ _ _ _ _
    refine res1 rfl (ResV.tmp rfl) rfl ?_
    rw [rightS_t (by omega) (fun i hi => hok i (by omega))]
def heavyS (l : List FldD) : Bool := decide (40 < l.length) || l.any heavyF
theorem heavyS_f {l : List FldD} (h : heavyS l = false) : l.length ≤ 40 ∧ ∀ f ∈ l, heavyF f = false := by
  unfold heavyS at h
  simp only [Bool.or_eq_false_iff, decide_eq_false_iff_not, List.any_eq_false] at h
  exact ⟨by omega, fun f hf => by have := h.2 f hf; simpa using this⟩
theorem heavyS_small {l : List FldD} (h : heavyS l = false) : smallS l := by
  obtain ⟨h1, h2⟩ := heavyS_f h
  exact ⟨by omega, fun f hf => by have := (heavyF_f (h2 f hf)).2.2.2.1; omega⟩
theorem rheavy14 (l : List FldD) : AC Try.prog 21 [.sl (l.map FldD.cs)] (fun x => x = .s (AB (heavyS l))) := by
  refine AC.of' 17 0 Try.func21 rfl ?_
  change AW _ _ _ _ []
  refine AW.seq ?_
  refine AW.region ?_
  refine AL.ra ?_
  refine AL.nil ?_
  change AW _ _ _ _ _
  refine AW.seq ?_
  refine AW.seq ?_
  refine AW.region ?_
  refine AL.rm ?_
  refine AL.r (rd_len_sl rfl el_42 rfl) ?_
  refine AL.r (rd_bin rfl rfl rfl (fun _ => rfl)) ?_
  refine AL.nil ?_
  change AW _ _ _ _ _
  refine AW.cd rfl (fun h6 => ?_) (fun h6 => ?_)
  ·skip
   refine AW.seq ?_
   refine AW.region ?_
   refine AL.ra ?_
   refine AL.nil ?_
   change AW _ _ _ _ _
   refine AW.ret ?_
   change ResA _ _ _ _ _
   refine res1 rfl (ResV.tmp rfl) rfl ?_
   (have : heavyS l = true := by (unfold heavyS; rw [decide_eq_true (by omega)]; rfl)); rw [this]
  ·skip
   refine AW.skip ?_
   change AW _ _ _ _ _
   refine AW.seq ?_
   refine AW.seq ?_
   refine AW.region ?_
   refine AL.ra ?_
   refine AL.nil ?_
   change AW _ _ _ _ _
   refine AW.block ?_
   refine AW.loopM (ι := Nat) [2, 7, 8, 9, 10, 11, 12, 13, 14, 15, 16, 17] (fun k => [(3, AI (k : Int))]) [] (fun k => []) (fun k => k ≤ l.length ∧ ∀ i (hi : i < l.length), i < k → heavyF l[i] = false) (fun k => l.length - k) 0 (⟨by omega, fun i _ hi => absurd hi (by omega)⟩) (by simp only [anys, upds, offs, List.set_cons_zero, List.set_cons_succ]; repeat (first | exact Wk.nil | refine Wk.same ?_ | refine Wk.any ?_)) (by simp only [anys, upds, offs, List.set_cons_zero, List.set_cons_succ]; repeat (first | exact Sk.nil _ | refine Sk.same _ ?_ | refine Sk.scr _ (by decide) ?_)) ?_
   rintro k gs hJ
   refine AW.norm (by simp only [anys, upds, offs, List.set_cons_zero, List.set_cons_succ]; rfl) (by (try simp only [anys, upds, offs, List.set_cons_zero, List.set_cons_succ]); (try rfl)) ?_
   obtain ⟨hk, hok⟩ := hJ
   refine AW.seq ?_
   refine AW.seq ?_
   refine AW.region ?_
   refine AL.rm ?_
   refine AL.rm ?_
   refine AL.r (rd_len_sl rfl el_42 rfl) ?_
   refine AL.r (rd_bin rfl rfl rfl (fun _ => rfl)) ?_
   refine AL.nil ?_
   change AW _ _ _ _ _
   refine AW.cd rfl (fun h10 => ?_) (fun h10 => ?_)
   ·skip
    refine AW.skip ?_
    change AW _ _ _ _ _
    refine AW.seq ?_
    refine AW.block ?_
    refine AW.seq ?_
    refine AW.region ?_
    refine AL.rm ?_
    refine AL.rm ?_
    refine AL.r (rd_iaddr_sl rfl el_42 rfl rfl rfl (get_mapA (by omega)) rfl) ?_
    refine AL.r (rd_loadN_ep rfl ag_47 rfl (Nat.le_of_ble_eq_true rfl) rfl) ?_
    refine AL.op rfl (AOpB.op (op_call (rheavy_c (l[k]'(by omega))) rfl (by kernel_rfl) rfl (none) ?_))
    rintro r rfl
    refine AL.n ?_
    refine AL.nil ?_
    change AW _ _ _ _ _
    refine AW.cd rfl (fun h17 => ?_) (fun h17 => ?_)
    ·skip
     refine AW.seq ?_
     refine AW.region ?_
     refine AL.ra ?_
     refine AL.nil ?_
     change AW _ _ _ _ _
     refine AW.ret ?_
     change ResA _ _ _ _ _
     refine res1 rfl (ResV.tmp rfl) rfl ?_
     (have : heavyS l = true := by (unfold heavyS; rw [any_t (k := k) (by omega) (by simpa using h17)]; simp)); rw [this]
    ·skip
     refine AW.skip ?_
     change AW _ _ _ _ _
     refine AW.region ?_
     refine AL.rm ?_
     refine AL.r (rd_arith_add rfl rfl rfl (by first | exact IntWalk.i64_in _ (by omega) | rfl)) ?_
     refine AL.ra ?_
     refine AL.nil ?_
     refine ⟨k + 1, ?_, by first | omega | (simp only []; omega), ?_, ?_⟩
     ·exact ⟨by omega, all_nextL (p := fun f => heavyF f = false) (by omega) hok (by simpa using h17)⟩
     ·simp only [anys, upds, offs, List.set_cons_zero, List.set_cons_succ]; repeat (first | exact Wk.nil | refine Wk.same ?_ | refine Wk.any ?_)
     ·simp only [anys, upds, offs, List.set_cons_zero, List.set_cons_succ]; repeat (first | exact Sk.nil _ | refine Sk.same _ ?_ | refine Sk.scr _ (by decide) ?_)
   ·skip
    refine AW.exit ?_
    change AW _ _ _ _ _
    refine AW.seq ?_
    refine AW.region ?_
    refine AL.ra ?_
    refine AL.nil ?_
    change AW _ _ _ _ _
    refine AW.ret ?_
    change ResA _ _ _ _ _
    refine res1 rfl (ResV.tmp rfl) rfl ?_
    (have : heavyS l = false := by (unfold heavyS; rw [any_f (fun i hi => hok i hi (by omega)), decide_eq_false (by omega)]; rfl)); rw [this]
end Go.Proofs.Ytdgcbhihmnhnaaa
