/- Pools: whether a tag is there, which op it has, walked over abstract states. No conditions. -/
import Derived.Test.YtfjnkhanndkpfaaPlA
import Derived.Test.YtfjnkhanndkpfaaFre
namespace Go.Proofs.Ytfjnkhanndkpfaa
set_option linter.unusedSimpArgs false
set_option linter.unusedVariables false
set_option maxRecDepth 100000
set_option maxRecDepth 100000
open Go.RowKit

abbrev VecD := Nat → Int
abbrev vecA (v : VecD) : AV := .ag [AI (v 0), AI (v 1), AI (v 2), AI (v 3), AI (v 4), AI (v 5)]
def hasV (v : VecD) (t : TagD) : Bool := tagB t && decide (t.n ≤ v (t.rep - 1).toNat)
theorem tagB_rep {t : TagD} (h : tagB t = true) : (t.rep = 1 ∨ t.rep = 2 ∨ t.rep = 3 ∨ t.rep = 4 ∨ t.rep = 5 ∨ t.rep = 6) ∧ 1 ≤ t.n ∧ t.n ≤ 1099511627776 := by
  unfold tagB at h
  simp only [Bool.and_eq_true, decide_eq_true_eq] at h
  omega
theorem dhas_f (v : VecD) (t : TagD) (h : tagB t = false) : AC Try.prog 85 [vecA v, t.av] (fun r => r = .s (AB (hasV v t))) := by
  unfold hasV
  rw [h]
  refine AC.of' 15 2 Try.func85 rfl ?_
  change AW _ _ _ _ [TK.mk 0 .off, TK.mk 0 .off]
  refine AW.seq ?_
  refine AW.region ?_
  refine AL.op rfl (AOpB.op (op_box 0 rfl rfl rfl rfl rfl ?_))
  refine AL.n ?_
  refine AL.op rfl (AOpB.op (op_box 1 rfl rfl rfl rfl rfl ?_))
  refine AL.n ?_
  refine AL.ra ?_
  refine AL.nil ?_
  change AW _ _ _ _ _
  refine AW.seq ?_
  refine AW.draw (by kernel_rfl) ?_
  refine AD.r 0 rfl (rd_loadN_bx rfl ag_44 rfl rfl (Nat.le_of_ble_eq_true rfl) rfl) rfl ?_
  refine AD.move 1 rfl (by kernel_rfl) rfl (op_call (tag_c t) rfl (by kernel_rfl) rfl (none) ?_)
  rintro r rfl
  refine AD.n ?_
  rw [h]
  refine AD.r 2 rfl (rd_move rfl rfl) rfl ?_
  refine AD.fk (d := 7) rfl (fun h7 => ?_) (fun h7 => ?_)
  ·skip
   exact absurd h7 (by decide)
  ·skip
   refine AD.n ?_
   refine AD.s 3 rfl ⟨_, _, rfl, rfl, rfl⟩ ?_
   refine AD.s 4 rfl ⟨_, _, rfl, rfl, rfl⟩ ?_
   refine AD.s 5 rfl ⟨_, _, rfl, rfl, rfl⟩ ?_
   refine AD.s 6 rfl ⟨_, _, rfl, rfl, rfl⟩ ?_
   refine AD.s 7 rfl ⟨_, _, rfl, rfl, rfl⟩ ?_
   refine AD.s 8 rfl ⟨_, _, rfl, rfl, rfl⟩ ?_
   refine AD.s 9 rfl ⟨_, _, rfl, rfl, rfl⟩ ?_
   refine AD.s 10 rfl ⟨_, _, rfl, rfl, rfl⟩ ?_
   refine AD.r 11 rfl (rd_pick_f rfl rfl rfl) rfl ?_
   refine AD.r 12 rfl (rd_assign rfl rfl) rfl ?_
   refine AD.done (by kernel_rfl) ?_
   change AW _ _ _ _ _
   refine AW.ret ?_
   change ResA _ _ _ _ _
   refine res1 rfl (ResV.tmp rfl) rfl ?_
   rfl
theorem tag_t {t : TagD} (h : tagB t = true) : AC Try.prog 126 [t.av] (fun r => r = .s (AB true)) := by
  have := tag_c t
  rwa [h] at this
theorem dhas_1 (v : VecD) (n : Int) (h : tagB ⟨1, n⟩ = true) : AC Try.prog 85 [vecA v, .ag [AI 1, AI n]] (fun r => r = .s (AB (hasV v ⟨1, n⟩))) := by
  unfold hasV
  rw [h]
  change AC _ _ [vecA v, .ag [AI 1, AI n]] _
  refine AC.of' 15 2 Try.func85 rfl ?_
  change AW _ _ _ _ [TK.mk 0 .off, TK.mk 0 .off]
  refine AW.seq ?_
  refine AW.region ?_
  refine AL.op rfl (AOpB.op (op_box 0 rfl rfl rfl rfl rfl ?_))
  refine AL.n ?_
  refine AL.op rfl (AOpB.op (op_box 1 rfl rfl rfl rfl rfl ?_))
  refine AL.n ?_
  refine AL.ra ?_
  refine AL.nil ?_
  change AW _ _ _ _ _
  refine AW.seq ?_
  refine AW.draw (by kernel_rfl) ?_
  refine AD.r 0 rfl (rd_loadN_bx rfl ag_44 rfl rfl (Nat.le_of_ble_eq_true rfl) rfl) rfl ?_
  refine AD.move 1 rfl (by kernel_rfl) rfl (op_call (tag_t (t := ⟨1, n⟩) h) rfl (by kernel_rfl) rfl (none) ?_)
  rintro r rfl
  refine AD.n ?_
  refine AD.r 2 rfl (rd_move rfl rfl) rfl ?_
  refine AD.r 3 rfl (rd_faddr_bx rfl fo_44_1 rfl rfl ⟨_, _, rfl⟩) ⟨_, _, rfl, rfl, rfl⟩ ?_
  refine AD.r 4 rfl (rd_load_bx rfl ag_3 rfl rfl rfl) ⟨_, _, rfl, rfl, rfl⟩ ?_
  refine AD.r 5 rfl (rd_faddr_bx rfl fo_44_0 rfl rfl ⟨_, _, rfl⟩) ⟨_, _, rfl, rfl, rfl⟩ ?_
  refine AD.r 6 rfl (rd_load_bx rfl ag_3 rfl rfl rfl) ⟨_, _, rfl, rfl, rfl⟩ ?_
  refine AD.r 7 rfl (rd_arith_sub rfl rfl rfl (rfl : _ = (0 : Int))) ⟨_, _, rfl, rfl, rfl⟩ ?_
  refine AD.r 8 rfl (rd_iaddr_bx_ 0 rfl ar_58 rfl rfl rfl) ⟨_, _, rfl, rfl, rfl⟩ ?_
  refine AD.r 9 rfl (rd_load_bx rfl ag_3 rfl rfl rfl) ⟨_, _, rfl, rfl, rfl⟩ ?_
  refine AD.r 10 rfl (rd_bin rfl rfl rfl (fun _ => rfl)) ⟨_, _, rfl, rfl, rfl⟩ ?_
  refine AD.r 11 rfl (rd_pick_t rfl rfl rfl) rfl ?_
  refine AD.r 12 rfl (rd_assign rfl rfl) rfl ?_
  refine AD.done (by kernel_rfl) ?_
  change AW _ _ _ _ _
  refine AW.ret ?_
  change ResA _ _ _ _ _
  refine res1 rfl (ResV.tmp rfl) rfl ?_
  rfl
theorem dhas_2 (v : VecD) (n : Int) (h : tagB ⟨2, n⟩ = true) : AC Try.prog 85 [vecA v, .ag [AI 2, AI n]] (fun r => r = .s (AB (hasV v ⟨2, n⟩))) := by
  unfold hasV
  rw [h]
  change AC _ _ [vecA v, .ag [AI 2, AI n]] _
  refine AC.of' 15 2 Try.func85 rfl ?_
  change AW _ _ _ _ [TK.mk 0 .off, TK.mk 0 .off]
  refine AW.seq ?_
  refine AW.region ?_
  refine AL.op rfl (AOpB.op (op_box 0 rfl rfl rfl rfl rfl ?_))
  refine AL.n ?_
  refine AL.op rfl (AOpB.op (op_box 1 rfl rfl rfl rfl rfl ?_))
  refine AL.n ?_
  refine AL.ra ?_
  refine AL.nil ?_
  change AW _ _ _ _ _
  refine AW.seq ?_
  refine AW.draw (by kernel_rfl) ?_
  refine AD.r 0 rfl (rd_loadN_bx rfl ag_44 rfl rfl (Nat.le_of_ble_eq_true rfl) rfl) rfl ?_
  refine AD.move 1 rfl (by kernel_rfl) rfl (op_call (tag_t (t := ⟨2, n⟩) h) rfl (by kernel_rfl) rfl (none) ?_)
  rintro r rfl
  refine AD.n ?_
  refine AD.r 2 rfl (rd_move rfl rfl) rfl ?_
  refine AD.r 3 rfl (rd_faddr_bx rfl fo_44_1 rfl rfl ⟨_, _, rfl⟩) ⟨_, _, rfl, rfl, rfl⟩ ?_
  refine AD.r 4 rfl (rd_load_bx rfl ag_3 rfl rfl rfl) ⟨_, _, rfl, rfl, rfl⟩ ?_
  refine AD.r 5 rfl (rd_faddr_bx rfl fo_44_0 rfl rfl ⟨_, _, rfl⟩) ⟨_, _, rfl, rfl, rfl⟩ ?_
  refine AD.r 6 rfl (rd_load_bx rfl ag_3 rfl rfl rfl) ⟨_, _, rfl, rfl, rfl⟩ ?_
  refine AD.r 7 rfl (rd_arith_sub rfl rfl rfl (rfl : _ = (1 : Int))) ⟨_, _, rfl, rfl, rfl⟩ ?_
  refine AD.r 8 rfl (rd_iaddr_bx_ 1 rfl ar_58 rfl rfl rfl) ⟨_, _, rfl, rfl, rfl⟩ ?_
  refine AD.r 9 rfl (rd_load_bx rfl ag_3 rfl rfl rfl) ⟨_, _, rfl, rfl, rfl⟩ ?_
  refine AD.r 10 rfl (rd_bin rfl rfl rfl (fun _ => rfl)) ⟨_, _, rfl, rfl, rfl⟩ ?_
  refine AD.r 11 rfl (rd_pick_t rfl rfl rfl) rfl ?_
  refine AD.r 12 rfl (rd_assign rfl rfl) rfl ?_
  refine AD.done (by kernel_rfl) ?_
  change AW _ _ _ _ _
  refine AW.ret ?_
  change ResA _ _ _ _ _
  refine res1 rfl (ResV.tmp rfl) rfl ?_
  rfl
theorem dhas_3 (v : VecD) (n : Int) (h : tagB ⟨3, n⟩ = true) : AC Try.prog 85 [vecA v, .ag [AI 3, AI n]] (fun r => r = .s (AB (hasV v ⟨3, n⟩))) := by
  unfold hasV
  rw [h]
  change AC _ _ [vecA v, .ag [AI 3, AI n]] _
  refine AC.of' 15 2 Try.func85 rfl ?_
  change AW _ _ _ _ [TK.mk 0 .off, TK.mk 0 .off]
  refine AW.seq ?_
  refine AW.region ?_
  refine AL.op rfl (AOpB.op (op_box 0 rfl rfl rfl rfl rfl ?_))
  refine AL.n ?_
  refine AL.op rfl (AOpB.op (op_box 1 rfl rfl rfl rfl rfl ?_))
  refine AL.n ?_
  refine AL.ra ?_
  refine AL.nil ?_
  change AW _ _ _ _ _
  refine AW.seq ?_
  refine AW.draw (by kernel_rfl) ?_
  refine AD.r 0 rfl (rd_loadN_bx rfl ag_44 rfl rfl (Nat.le_of_ble_eq_true rfl) rfl) rfl ?_
  refine AD.move 1 rfl (by kernel_rfl) rfl (op_call (tag_t (t := ⟨3, n⟩) h) rfl (by kernel_rfl) rfl (none) ?_)
  rintro r rfl
  refine AD.n ?_
  refine AD.r 2 rfl (rd_move rfl rfl) rfl ?_
  refine AD.r 3 rfl (rd_faddr_bx rfl fo_44_1 rfl rfl ⟨_, _, rfl⟩) ⟨_, _, rfl, rfl, rfl⟩ ?_
  refine AD.r 4 rfl (rd_load_bx rfl ag_3 rfl rfl rfl) ⟨_, _, rfl, rfl, rfl⟩ ?_
  refine AD.r 5 rfl (rd_faddr_bx rfl fo_44_0 rfl rfl ⟨_, _, rfl⟩) ⟨_, _, rfl, rfl, rfl⟩ ?_
  refine AD.r 6 rfl (rd_load_bx rfl ag_3 rfl rfl rfl) ⟨_, _, rfl, rfl, rfl⟩ ?_
  refine AD.r 7 rfl (rd_arith_sub rfl rfl rfl (rfl : _ = (2 : Int))) ⟨_, _, rfl, rfl, rfl⟩ ?_
  refine AD.r 8 rfl (rd_iaddr_bx_ 2 rfl ar_58 rfl rfl rfl) ⟨_, _, rfl, rfl, rfl⟩ ?_
  refine AD.r 9 rfl (rd_load_bx rfl ag_3 rfl rfl rfl) ⟨_, _, rfl, rfl, rfl⟩ ?_
  refine AD.r 10 rfl (rd_bin rfl rfl rfl (fun _ => rfl)) ⟨_, _, rfl, rfl, rfl⟩ ?_
  refine AD.r 11 rfl (rd_pick_t rfl rfl rfl) rfl ?_
  refine AD.r 12 rfl (rd_assign rfl rfl) rfl ?_
  refine AD.done (by kernel_rfl) ?_
  change AW _ _ _ _ _
  refine AW.ret ?_
  change ResA _ _ _ _ _
  refine res1 rfl (ResV.tmp rfl) rfl ?_
  rfl
theorem dhas_4 (v : VecD) (n : Int) (h : tagB ⟨4, n⟩ = true) : AC Try.prog 85 [vecA v, .ag [AI 4, AI n]] (fun r => r = .s (AB (hasV v ⟨4, n⟩))) := by
  unfold hasV
  rw [h]
  change AC _ _ [vecA v, .ag [AI 4, AI n]] _
  refine AC.of' 15 2 Try.func85 rfl ?_
  change AW _ _ _ _ [TK.mk 0 .off, TK.mk 0 .off]
  refine AW.seq ?_
  refine AW.region ?_
  refine AL.op rfl (AOpB.op (op_box 0 rfl rfl rfl rfl rfl ?_))
  refine AL.n ?_
  refine AL.op rfl (AOpB.op (op_box 1 rfl rfl rfl rfl rfl ?_))
  refine AL.n ?_
  refine AL.ra ?_
  refine AL.nil ?_
  change AW _ _ _ _ _
  refine AW.seq ?_
  refine AW.draw (by kernel_rfl) ?_
  refine AD.r 0 rfl (rd_loadN_bx rfl ag_44 rfl rfl (Nat.le_of_ble_eq_true rfl) rfl) rfl ?_
  refine AD.move 1 rfl (by kernel_rfl) rfl (op_call (tag_t (t := ⟨4, n⟩) h) rfl (by kernel_rfl) rfl (none) ?_)
  rintro r rfl
  refine AD.n ?_
  refine AD.r 2 rfl (rd_move rfl rfl) rfl ?_
  refine AD.r 3 rfl (rd_faddr_bx rfl fo_44_1 rfl rfl ⟨_, _, rfl⟩) ⟨_, _, rfl, rfl, rfl⟩ ?_
  refine AD.r 4 rfl (rd_load_bx rfl ag_3 rfl rfl rfl) ⟨_, _, rfl, rfl, rfl⟩ ?_
  refine AD.r 5 rfl (rd_faddr_bx rfl fo_44_0 rfl rfl ⟨_, _, rfl⟩) ⟨_, _, rfl, rfl, rfl⟩ ?_
  refine AD.r 6 rfl (rd_load_bx rfl ag_3 rfl rfl rfl) ⟨_, _, rfl, rfl, rfl⟩ ?_
  refine AD.r 7 rfl (rd_arith_sub rfl rfl rfl (rfl : _ = (3 : Int))) ⟨_, _, rfl, rfl, rfl⟩ ?_
  refine AD.r 8 rfl (rd_iaddr_bx_ 3 rfl ar_58 rfl rfl rfl) ⟨_, _, rfl, rfl, rfl⟩ ?_
  refine AD.r 9 rfl (rd_load_bx rfl ag_3 rfl rfl rfl) ⟨_, _, rfl, rfl, rfl⟩ ?_
  refine AD.r 10 rfl (rd_bin rfl rfl rfl (fun _ => rfl)) ⟨_, _, rfl, rfl, rfl⟩ ?_
  refine AD.r 11 rfl (rd_pick_t rfl rfl rfl) rfl ?_
  refine AD.r 12 rfl (rd_assign rfl rfl) rfl ?_
  refine AD.done (by kernel_rfl) ?_
  change AW _ _ _ _ _
  refine AW.ret ?_
  change ResA _ _ _ _ _
  refine res1 rfl (ResV.tmp rfl) rfl ?_
  rfl
theorem dhas_5 (v : VecD) (n : Int) (h : tagB ⟨5, n⟩ = true) : AC Try.prog 85 [vecA v, .ag [AI 5, AI n]] (fun r => r = .s (AB (hasV v ⟨5, n⟩))) := by
  unfold hasV
  rw [h]
  change AC _ _ [vecA v, .ag [AI 5, AI n]] _
  refine AC.of' 15 2 Try.func85 rfl ?_
  change AW _ _ _ _ [TK.mk 0 .off, TK.mk 0 .off]
  refine AW.seq ?_
  refine AW.region ?_
  refine AL.op rfl (AOpB.op (op_box 0 rfl rfl rfl rfl rfl ?_))
  refine AL.n ?_
  refine AL.op rfl (AOpB.op (op_box 1 rfl rfl rfl rfl rfl ?_))
  refine AL.n ?_
  refine AL.ra ?_
  refine AL.nil ?_
  change AW _ _ _ _ _
  refine AW.seq ?_
  refine AW.draw (by kernel_rfl) ?_
  refine AD.r 0 rfl (rd_loadN_bx rfl ag_44 rfl rfl (Nat.le_of_ble_eq_true rfl) rfl) rfl ?_
  refine AD.move 1 rfl (by kernel_rfl) rfl (op_call (tag_t (t := ⟨5, n⟩) h) rfl (by kernel_rfl) rfl (none) ?_)
  rintro r rfl
  refine AD.n ?_
  refine AD.r 2 rfl (rd_move rfl rfl) rfl ?_
  refine AD.r 3 rfl (rd_faddr_bx rfl fo_44_1 rfl rfl ⟨_, _, rfl⟩) ⟨_, _, rfl, rfl, rfl⟩ ?_
  refine AD.r 4 rfl (rd_load_bx rfl ag_3 rfl rfl rfl) ⟨_, _, rfl, rfl, rfl⟩ ?_
  refine AD.r 5 rfl (rd_faddr_bx rfl fo_44_0 rfl rfl ⟨_, _, rfl⟩) ⟨_, _, rfl, rfl, rfl⟩ ?_
  refine AD.r 6 rfl (rd_load_bx rfl ag_3 rfl rfl rfl) ⟨_, _, rfl, rfl, rfl⟩ ?_
  refine AD.r 7 rfl (rd_arith_sub rfl rfl rfl (rfl : _ = (4 : Int))) ⟨_, _, rfl, rfl, rfl⟩ ?_
  refine AD.r 8 rfl (rd_iaddr_bx_ 4 rfl ar_58 rfl rfl rfl) ⟨_, _, rfl, rfl, rfl⟩ ?_
  refine AD.r 9 rfl (rd_load_bx rfl ag_3 rfl rfl rfl) ⟨_, _, rfl, rfl, rfl⟩ ?_
  refine AD.r 10 rfl (rd_bin rfl rfl rfl (fun _ => rfl)) ⟨_, _, rfl, rfl, rfl⟩ ?_
  refine AD.r 11 rfl (rd_pick_t rfl rfl rfl) rfl ?_
  refine AD.r 12 rfl (rd_assign rfl rfl) rfl ?_
  refine AD.done (by kernel_rfl) ?_
  change AW _ _ _ _ _
  refine AW.ret ?_
  change ResA _ _ _ _ _
  refine res1 rfl (ResV.tmp rfl) rfl ?_
  rfl
theorem dhas_6 (v : VecD) (n : Int) (h : tagB ⟨6, n⟩ = true) : AC Try.prog 85 [vecA v, .ag [AI 6, AI n]] (fun r => r = .s (AB (hasV v ⟨6, n⟩))) := by
  unfold hasV
  rw [h]
  change AC _ _ [vecA v, .ag [AI 6, AI n]] _
  refine AC.of' 15 2 Try.func85 rfl ?_
  change AW _ _ _ _ [TK.mk 0 .off, TK.mk 0 .off]
  refine AW.seq ?_
  refine AW.region ?_
  refine AL.op rfl (AOpB.op (op_box 0 rfl rfl rfl rfl rfl ?_))
  refine AL.n ?_
  refine AL.op rfl (AOpB.op (op_box 1 rfl rfl rfl rfl rfl ?_))
  refine AL.n ?_
  refine AL.ra ?_
  refine AL.nil ?_
  change AW _ _ _ _ _
  refine AW.seq ?_
  refine AW.draw (by kernel_rfl) ?_
  refine AD.r 0 rfl (rd_loadN_bx rfl ag_44 rfl rfl (Nat.le_of_ble_eq_true rfl) rfl) rfl ?_
  refine AD.move 1 rfl (by kernel_rfl) rfl (op_call (tag_t (t := ⟨6, n⟩) h) rfl (by kernel_rfl) rfl (none) ?_)
  rintro r rfl
  refine AD.n ?_
  refine AD.r 2 rfl (rd_move rfl rfl) rfl ?_
  refine AD.r 3 rfl (rd_faddr_bx rfl fo_44_1 rfl rfl ⟨_, _, rfl⟩) ⟨_, _, rfl, rfl, rfl⟩ ?_
  refine AD.r 4 rfl (rd_load_bx rfl ag_3 rfl rfl rfl) ⟨_, _, rfl, rfl, rfl⟩ ?_
  refine AD.r 5 rfl (rd_faddr_bx rfl fo_44_0 rfl rfl ⟨_, _, rfl⟩) ⟨_, _, rfl, rfl, rfl⟩ ?_
  refine AD.r 6 rfl (rd_load_bx rfl ag_3 rfl rfl rfl) ⟨_, _, rfl, rfl, rfl⟩ ?_
  refine AD.r 7 rfl (rd_arith_sub rfl rfl rfl (rfl : _ = (5 : Int))) ⟨_, _, rfl, rfl, rfl⟩ ?_
  refine AD.r 8 rfl (rd_iaddr_bx_ 5 rfl ar_58 rfl rfl rfl) ⟨_, _, rfl, rfl, rfl⟩ ?_
  refine AD.r 9 rfl (rd_load_bx rfl ag_3 rfl rfl rfl) ⟨_, _, rfl, rfl, rfl⟩ ?_
  refine AD.r 10 rfl (rd_bin rfl rfl rfl (fun _ => rfl)) ⟨_, _, rfl, rfl, rfl⟩ ?_
  refine AD.r 11 rfl (rd_pick_t rfl rfl rfl) rfl ?_
  refine AD.r 12 rfl (rd_assign rfl rfl) rfl ?_
  refine AD.done (by kernel_rfl) ?_
  change AW _ _ _ _ _
  refine AW.ret ?_
  change ResA _ _ _ _ _
  refine res1 rfl (ResV.tmp rfl) rfl ?_
  rfl
theorem dhas_c (v : VecD) (t : TagD) : AC Try.prog 85 [vecA v, t.av] (fun r => r = .s (AB (hasV v t))) := by
  cases h : tagB t with
  | false => exact dhas_f v t h
  | true =>
    obtain ⟨i, n⟩ := t
    have := (tagB_rep h).1
    simp only at this
    rcases this with rfl | rfl | rfl | rfl | rfl | rfl
    · exact dhas_1 v n h
    · exact dhas_2 v n h
    · exact dhas_3 v n h
    · exact dhas_4 v n h
    · exact dhas_5 v n h
    · exact dhas_6 v n h
def findP (p : PoolD) (t : TagD) : OpD × Int := if hasV (lensP p) t = true then ((p (t.rep - 1).toNat)[(t.n - 1).toNat]?.getD zeroO, 0) else (zeroO, 6)
theorem rightO_drops {o : OpD} (h : rightO o = true) : o.drops.length ≤ 60 := by
  unfold rightO dropsB at h
  simp only [Bool.and_eq_true, decide_eq_true_eq] at h
  exact h.2.1
theorem OkP.drops {p : PoolD} (h : OkP p) {i : Nat} (hi : i < 6) {o : OpD} (ho : o ∈ p i) : o.drops.length ≤ 1000000 := by
  obtain ⟨j, hj, rfl⟩ := List.getElem_of_mem ho
  have := rightO_drops (h.all i hi j hj).2
  omega
theorem getA_map {l : List OpD} {k : Nat} (h : k < l.length) : (l.map OpD.cs)[k]? = some (OpD.cs (l[k]?.getD zeroO)) := by
  rw [get_mapA h, List.getElem?_eq_getElem h]; rfl
theorem has_at {p : PoolD} {i : Nat} {n : Int} (h : hasV (lensP p) ⟨(i : Int) + 1, n⟩ = true) : 1 ≤ n ∧ n ≤ 1099511627776 ∧ n ≤ ((p i).length : Int) := by
  unfold hasV at h
  simp only [Bool.and_eq_true, decide_eq_true_eq] at h
  have := (tagB_rep h.1).2
  have e : ((i : Int) + 1 - 1).toNat = i := by omega
  have h2 := h.2
  rw [e] at h2
  unfold lensP at h2
  simp only at this
  omega
theorem mem_getD {l : List OpD} {k : Nat} (h : k < l.length) : l[k]?.getD zeroO ∈ l := by
  rw [List.getElem?_eq_getElem h]; exact List.getElem_mem h
section
variable (p : PoolD) (g g1 g2 g3 g4 g5 g6 : Nat)
theorem pfind_f (t : TagD) (h : tagB t = false) : ACo Try.prog 37 [.bx 0 g 0, t.av] (poolT g g1 g2 g3 g4 g5 g6 p) (fun y os' => y = .tu [(findP p t).1.av, AI (findP p t).2] ∧ os' = poolT g g1 g2 g3 g4 g5 g6 p) := by
  have h' : hasV (lensP p) t = false := (by unfold hasV; rw [h]; rfl)
  have hd := dhas_c (lensP p) t
  rw [h'] at hd
  refine ACo.of' (st0 := [⟨g, .box 114 [.ow 1 g1, .ow 2 g2, .ow 3 g3, .ow 4 g4, .ow 5 g5, .ow 6 g6]⟩, ⟨g1, owM true 47 15 ((p 0).map OpD.cs)⟩, ⟨g2, owM true 47 15 ((p 1).map OpD.cs)⟩, ⟨g3, owM true 47 15 ((p 2).map OpD.cs)⟩, ⟨g4, owM true 47 15 ((p 3).map OpD.cs)⟩, ⟨g5, owM true 47 15 ((p 4).map OpD.cs)⟩, ⟨g6, owM true 47 15 ((p 5).map OpD.cs)⟩, TK.mk 0 .off, TK.mk 0 .off]) 27 2 Try.func37 rfl 7 ?_
  refine AW.seq ?_
  refine AW.region ?_
  refine AL.op rfl (AOpB.op (op_box 7 rfl rfl rfl rfl rfl ?_))
  refine AL.no ?_
  refine AL.op rfl (AOpB.op (op_alloc 8 rfl ze_47 rfl ?_))
  refine AL.no ?_
  refine AL.ra ?_
  refine AL.nil ?_
  change AW _ _ _ _ _
  refine AW.seq ?_
  refine AW.seq ?_
  refine AW.region ?_
  refine AL.rm ?_
  refine AL.r (rd_peq_bx rfl pt_41 rfl rfl rfl) ?_
  refine AL.nil ?_
  change AW _ _ _ _ _
  refine AW.cond_f rfl ?_
  refine AW.skip ?_
  change AW _ _ _ _ _
  refine AW.seq ?_
  refine AW.seq ?_
  refine AW.freebox 3 rfl rfl (Nat.zero_lt_succ _) rfl ?_
  refine AW.norm (by simp only [anys, upds, offs, List.set_cons_zero, List.set_cons_succ]; rfl) (by (try simp only [anys, upds, offs, List.set_cons_zero, List.set_cons_succ]); (try rfl)) ?_
  refine AW.drawA (by kernel_rfl) ?_
  refine ADA.r 0 rfl (ARdP.a (rdP_move rfl rfl)) rfl ?_
  refine ADA.r 2 rfl (rdA_loadN_ep rfl ag_44 rfl (Nat.le_of_ble_eq_true rfl) rfl) rfl ?_
  refine ADA.b ?_
  refine ADB.mv 1 rfl (calloP (phave_c p g g1 g2 g3 g4 g5 g6) [0, 1, 2, 3, 4, 5, 6] ?_)
  rintro y os' ⟨rfl, rfl⟩
  refine ADB.noP ?_
  refine ADB.mv 3 rfl (AOpB.op (op_call (hd) rfl (by kernel_rfl) rfl (none) ?_))
  rintro r rfl
  refine ADB.n ?_
  refine ADB.r 4 rfl (rdP_un rfl rfl (fun _ => rfl)) rfl ?_
  refine ADB.done (by kernel_rfl) ?_
  change AW _ _ _ _ _
  refine AW.cond_t rfl ?_
  refine AW.seq ?_
  refine AW.region ?_
  refine AL.r (rd_build rfl pl_47 ze_47 rfl rfl) ?_
  refine AL.op rfl (op_store_ rfl rfl rfl rfl rfl sz_47 ?_)
  refine AL.no ?_
  refine AL.ra ?_
  refine AL.nil ?_
  change AW _ _ _ _ _
  refine AW.ret ?_
  repeat with_reducible first | refine thenA_ret ?_ | refine inBlockA_ret ?_
  with_reducible first | refine retO_ret ?_ | refine retO_normal ?_
  refine reso2P rfl (ResV.cells rfl rfl ag_47 (Nat.le_of_ble_eq_true rfl) rfl) rfl (ResV.tmp rfl) rfl ?_
  exact ⟨by unfold findP; rw [if_neg (by rw [h']; decide)]; rfl, rfl⟩
variable (hok : OkP p)
include hok
theorem pfind_1 (n : Int) : ACo Try.prog 37 [.bx 0 g 0, .ag [AI 1, AI n]] (poolT g g1 g2 g3 g4 g5 g6 p) (fun y os' => y = .tu [(findP p ⟨1, n⟩).1.av, AI (findP p ⟨1, n⟩).2] ∧ os' = poolT g g1 g2 g3 g4 g5 g6 p) := by
  refine ACo.of' (st0 := [⟨g, .box 114 [.ow 1 g1, .ow 2 g2, .ow 3 g3, .ow 4 g4, .ow 5 g5, .ow 6 g6]⟩, ⟨g1, owM true 47 15 ((p 0).map OpD.cs)⟩, ⟨g2, owM true 47 15 ((p 1).map OpD.cs)⟩, ⟨g3, owM true 47 15 ((p 2).map OpD.cs)⟩, ⟨g4, owM true 47 15 ((p 3).map OpD.cs)⟩, ⟨g5, owM true 47 15 ((p 4).map OpD.cs)⟩, ⟨g6, owM true 47 15 ((p 5).map OpD.cs)⟩, TK.mk 0 .off, TK.mk 0 .off]) 27 2 Try.func37 rfl 7 ?_
  refine AW.seq ?_
  refine AW.region ?_
  refine AL.op rfl (AOpB.op (op_box 7 rfl rfl rfl rfl rfl ?_))
  refine AL.no ?_
  refine AL.op rfl (AOpB.op (op_alloc 8 rfl ze_47 rfl ?_))
  refine AL.no ?_
  refine AL.ra ?_
  refine AL.nil ?_
  change AW _ _ _ _ _
  refine AW.seq ?_
  refine AW.seq ?_
  refine AW.region ?_
  refine AL.rm ?_
  refine AL.r (rd_peq_bx rfl pt_41 rfl rfl rfl) ?_
  refine AL.nil ?_
  change AW _ _ _ _ _
  refine AW.cond_f rfl ?_
  refine AW.skip ?_
  change AW _ _ _ _ _
  refine AW.seq ?_
  refine AW.seq ?_
  refine AW.freebox 3 rfl rfl (Nat.zero_lt_succ _) rfl ?_
  refine AW.norm (by simp only [anys, upds, offs, List.set_cons_zero, List.set_cons_succ]; rfl) (by (try simp only [anys, upds, offs, List.set_cons_zero, List.set_cons_succ]); (try rfl)) ?_
  refine AW.drawA (by kernel_rfl) ?_
  refine ADA.r 0 rfl (ARdP.a (rdP_move rfl rfl)) rfl ?_
  refine ADA.r 2 rfl (rdA_loadN_ep rfl ag_44 rfl (Nat.le_of_ble_eq_true rfl) rfl) rfl ?_
  refine ADA.b ?_
  refine ADB.mv 1 rfl (calloP (phave_c p g g1 g2 g3 g4 g5 g6) [0, 1, 2, 3, 4, 5, 6] ?_)
  rintro y os' ⟨rfl, rfl⟩
  refine ADB.noP ?_
  refine ADB.mv 3 rfl (AOpB.op (op_call (dhas_c (lensP p) ⟨1, n⟩) rfl (by kernel_rfl) rfl (none) ?_))
  rintro r rfl
  refine ADB.n ?_
  refine ADB.r 4 rfl (rdP_un rfl rfl (fun _ => rfl)) rfl ?_
  refine ADB.done (by kernel_rfl) ?_
  change AW _ _ _ _ _
  refine AW.cd rfl (fun h13 => ?_) (fun h13 => ?_)
  ·skip
   refine AW.seq ?_
   refine AW.region ?_
   refine AL.r (rd_build rfl pl_47 ze_47 rfl rfl) ?_
   refine AL.op rfl (op_store_ rfl rfl rfl rfl rfl sz_47 ?_)
   refine AL.no ?_
   refine AL.ra ?_
   refine AL.nil ?_
   change AW _ _ _ _ _
   refine AW.ret ?_
   repeat with_reducible first | refine thenA_ret ?_ | refine inBlockA_ret ?_
   with_reducible first | refine retO_ret ?_ | refine retO_normal ?_
   refine reso2P rfl (ResV.cells rfl rfl ag_47 (Nat.le_of_ble_eq_true rfl) rfl) rfl (ResV.tmp rfl) rfl ?_
   exact ⟨by unfold findP; rw [if_neg (by simp_all)]; rfl, rfl⟩
  ·skip
   refine AW.skip ?_
   change AW _ _ _ _ _
   refine AW.seq ?_
   obtain ⟨hb1, hb2, hb3⟩ := has_at (p := p) (i := 0) (n := n) (by simpa using h13)
   refine AW.drawA (by kernel_rfl) ?_
   refine ADA.r 0 rfl (ARdP.a (rdP_move rfl rfl)) rfl ?_
   refine ADA.r 1 rfl (ARdP.a (rdP_faddr_ep rfl fo_44_0 rfl)) rfl ?_
   refine ADA.r 2 rfl (rdA_load_ep rfl ag_3 rfl rfl) rfl ?_
   refine ADA.r 3 rfl (ARdP.a (rdP_arith_sub rfl rfl rfl (rfl : _ = (0 : Int)))) rfl ?_
   refine ADA.r 4 rfl (ARdP.a (rdP_nilc_bx rfl rfl rfl)) rfl ?_
   refine ADA.r 5 rfl (ARdP.a (rdP_faddr_bx rfl fo_114_0 rfl rfl ⟨_, _, rfl⟩)) rfl ?_
   refine ADA.r 6 rfl (ARdP.a (rdP_iaddr_bx_ 0 rfl ar_112 rfl rfl rfl)) rfl ?_
   refine ADA.r 8 rfl (ARdP.a (rdP_faddr_ep rfl fo_44_1 rfl)) rfl ?_
   refine ADA.r 9 rfl (rdA_load_ep rfl ag_3 rfl rfl) rfl ?_
   refine ADA.r 10 rfl (ARdP.a (rdP_arith_sub rfl rfl rfl (by first | exact IntWalk.i64_in _ (by omega) | rfl))) rfl ?_
   refine ADA.b ?_
   refine ADB.mv 7 rfl (AOpB.op (ARd.opB (rd_load_bx rfl ag_50 rfl rfl rfl) ?_))
   refine ADB.n ?_
   refine ADB.mv 11 rfl (AOpB.op (ARd.opB (rd_iaddr_owM rfl el_50 rfl rfl rfl (n := (n - 1).toNat) (by omega) (by simp only [List.length_map]; omega)) ?_))
   refine ADB.n ?_
   refine ADB.mv 12 rfl (AOpB.op (ARd.opB (rd_loadN_boM (n - 1).toNat rfl ag_47 rfl rfl rfl rfl (getA_map (by omega))) ?_))
   refine ADB.n ?_
   refine ADB.mv 13 rfl (AOpB.op (op_call (oown_c ((p 0)[(n - 1).toNat]?.getD zeroO) (hok.drops (i := 0) (by decide) (mem_getD (by omega)))) rfl (by kernel_rfl) rfl (none) ?_))
   rintro r rfl
   refine ADB.n ?_
   refine ADB.mv 14 rfl (op_store_ rfl rfl rfl rfl rfl sz_47 ?_)
   refine ADB.n ?_
   refine ADB.r 15 rfl (rdP_assign rfl rfl) rfl ?_
   refine ADB.done (by kernel_rfl) ?_
   change AW _ _ _ _ _
   refine AW.ret ?_
   repeat with_reducible first | refine thenA_ret ?_ | refine inBlockA_ret ?_
   with_reducible first | refine retO_ret ?_ | refine retO_normal ?_
   refine reso2P rfl (ResV.cells rfl rfl ag_47 (Nat.le_of_ble_eq_true rfl) rfl) rfl (ResV.tmp rfl) rfl ?_
   exact ⟨by unfold findP; rw [if_pos (by assumption)]; rfl, rfl⟩
theorem pfind_2 (n : Int) : ACo Try.prog 37 [.bx 0 g 0, .ag [AI 2, AI n]] (poolT g g1 g2 g3 g4 g5 g6 p) (fun y os' => y = .tu [(findP p ⟨2, n⟩).1.av, AI (findP p ⟨2, n⟩).2] ∧ os' = poolT g g1 g2 g3 g4 g5 g6 p) := by
  refine ACo.of' (st0 := [⟨g, .box 114 [.ow 1 g1, .ow 2 g2, .ow 3 g3, .ow 4 g4, .ow 5 g5, .ow 6 g6]⟩, ⟨g1, owM true 47 15 ((p 0).map OpD.cs)⟩, ⟨g2, owM true 47 15 ((p 1).map OpD.cs)⟩, ⟨g3, owM true 47 15 ((p 2).map OpD.cs)⟩, ⟨g4, owM true 47 15 ((p 3).map OpD.cs)⟩, ⟨g5, owM true 47 15 ((p 4).map OpD.cs)⟩, ⟨g6, owM true 47 15 ((p 5).map OpD.cs)⟩, TK.mk 0 .off, TK.mk 0 .off]) 27 2 Try.func37 rfl 7 ?_
  refine AW.seq ?_
  refine AW.region ?_
  refine AL.op rfl (AOpB.op (op_box 7 rfl rfl rfl rfl rfl ?_))
  refine AL.no ?_
  refine AL.op rfl (AOpB.op (op_alloc 8 rfl ze_47 rfl ?_))
  refine AL.no ?_
  refine AL.ra ?_
  refine AL.nil ?_
  change AW _ _ _ _ _
  refine AW.seq ?_
  refine AW.seq ?_
  refine AW.region ?_
  refine AL.rm ?_
  refine AL.r (rd_peq_bx rfl pt_41 rfl rfl rfl) ?_
  refine AL.nil ?_
  change AW _ _ _ _ _
  refine AW.cond_f rfl ?_
  refine AW.skip ?_
  change AW _ _ _ _ _
  refine AW.seq ?_
  refine AW.seq ?_
  refine AW.freebox 3 rfl rfl (Nat.zero_lt_succ _) rfl ?_
  refine AW.norm (by simp only [anys, upds, offs, List.set_cons_zero, List.set_cons_succ]; rfl) (by (try simp only [anys, upds, offs, List.set_cons_zero, List.set_cons_succ]); (try rfl)) ?_
  refine AW.drawA (by kernel_rfl) ?_
  refine ADA.r 0 rfl (ARdP.a (rdP_move rfl rfl)) rfl ?_
  refine ADA.r 2 rfl (rdA_loadN_ep rfl ag_44 rfl (Nat.le_of_ble_eq_true rfl) rfl) rfl ?_
  refine ADA.b ?_
  refine ADB.mv 1 rfl (calloP (phave_c p g g1 g2 g3 g4 g5 g6) [0, 1, 2, 3, 4, 5, 6] ?_)
  rintro y os' ⟨rfl, rfl⟩
  refine ADB.noP ?_
  refine ADB.mv 3 rfl (AOpB.op (op_call (dhas_c (lensP p) ⟨2, n⟩) rfl (by kernel_rfl) rfl (none) ?_))
  rintro r rfl
  refine ADB.n ?_
  refine ADB.r 4 rfl (rdP_un rfl rfl (fun _ => rfl)) rfl ?_
  refine ADB.done (by kernel_rfl) ?_
  change AW _ _ _ _ _
  refine AW.cd rfl (fun h13 => ?_) (fun h13 => ?_)
  ·skip
   refine AW.seq ?_
   refine AW.region ?_
   refine AL.r (rd_build rfl pl_47 ze_47 rfl rfl) ?_
   refine AL.op rfl (op_store_ rfl rfl rfl rfl rfl sz_47 ?_)
   refine AL.no ?_
   refine AL.ra ?_
   refine AL.nil ?_
   change AW _ _ _ _ _
   refine AW.ret ?_
   repeat with_reducible first | refine thenA_ret ?_ | refine inBlockA_ret ?_
   with_reducible first | refine retO_ret ?_ | refine retO_normal ?_
   refine reso2P rfl (ResV.cells rfl rfl ag_47 (Nat.le_of_ble_eq_true rfl) rfl) rfl (ResV.tmp rfl) rfl ?_
   exact ⟨by unfold findP; rw [if_neg (by simp_all)]; rfl, rfl⟩
  ·skip
   refine AW.skip ?_
   change AW _ _ _ _ _
   refine AW.seq ?_
   obtain ⟨hb1, hb2, hb3⟩ := has_at (p := p) (i := 1) (n := n) (by simpa using h13)
   refine AW.drawA (by kernel_rfl) ?_
   refine ADA.r 0 rfl (ARdP.a (rdP_move rfl rfl)) rfl ?_
   refine ADA.r 1 rfl (ARdP.a (rdP_faddr_ep rfl fo_44_0 rfl)) rfl ?_
   refine ADA.r 2 rfl (rdA_load_ep rfl ag_3 rfl rfl) rfl ?_
   refine ADA.r 3 rfl (ARdP.a (rdP_arith_sub rfl rfl rfl (rfl : _ = (1 : Int)))) rfl ?_
   refine ADA.r 4 rfl (ARdP.a (rdP_nilc_bx rfl rfl rfl)) rfl ?_
   refine ADA.r 5 rfl (ARdP.a (rdP_faddr_bx rfl fo_114_0 rfl rfl ⟨_, _, rfl⟩)) rfl ?_
   refine ADA.r 6 rfl (ARdP.a (rdP_iaddr_bx_ 1 rfl ar_112 rfl rfl rfl)) rfl ?_
   refine ADA.r 8 rfl (ARdP.a (rdP_faddr_ep rfl fo_44_1 rfl)) rfl ?_
   refine ADA.r 9 rfl (rdA_load_ep rfl ag_3 rfl rfl) rfl ?_
   refine ADA.r 10 rfl (ARdP.a (rdP_arith_sub rfl rfl rfl (by first | exact IntWalk.i64_in _ (by omega) | rfl))) rfl ?_
   refine ADA.b ?_
   refine ADB.mv 7 rfl (AOpB.op (ARd.opB (rd_load_bx rfl ag_50 rfl rfl rfl) ?_))
   refine ADB.n ?_
   refine ADB.mv 11 rfl (AOpB.op (ARd.opB (rd_iaddr_owM rfl el_50 rfl rfl rfl (n := (n - 1).toNat) (by omega) (by simp only [List.length_map]; omega)) ?_))
   refine ADB.n ?_
   refine ADB.mv 12 rfl (AOpB.op (ARd.opB (rd_loadN_boM (n - 1).toNat rfl ag_47 rfl rfl rfl rfl (getA_map (by omega))) ?_))
   refine ADB.n ?_
   refine ADB.mv 13 rfl (AOpB.op (op_call (oown_c ((p 1)[(n - 1).toNat]?.getD zeroO) (hok.drops (i := 1) (by decide) (mem_getD (by omega)))) rfl (by kernel_rfl) rfl (none) ?_))
   rintro r rfl
   refine ADB.n ?_
   refine ADB.mv 14 rfl (op_store_ rfl rfl rfl rfl rfl sz_47 ?_)
   refine ADB.n ?_
   refine ADB.r 15 rfl (rdP_assign rfl rfl) rfl ?_
   refine ADB.done (by kernel_rfl) ?_
   change AW _ _ _ _ _
   refine AW.ret ?_
   repeat with_reducible first | refine thenA_ret ?_ | refine inBlockA_ret ?_
   with_reducible first | refine retO_ret ?_ | refine retO_normal ?_
   refine reso2P rfl (ResV.cells rfl rfl ag_47 (Nat.le_of_ble_eq_true rfl) rfl) rfl (ResV.tmp rfl) rfl ?_
   exact ⟨by unfold findP; rw [if_pos (by assumption)]; rfl, rfl⟩
theorem pfind_3 (n : Int) : ACo Try.prog 37 [.bx 0 g 0, .ag [AI 3, AI n]] (poolT g g1 g2 g3 g4 g5 g6 p) (fun y os' => y = .tu [(findP p ⟨3, n⟩).1.av, AI (findP p ⟨3, n⟩).2] ∧ os' = poolT g g1 g2 g3 g4 g5 g6 p) := by
  refine ACo.of' (st0 := [⟨g, .box 114 [.ow 1 g1, .ow 2 g2, .ow 3 g3, .ow 4 g4, .ow 5 g5, .ow 6 g6]⟩, ⟨g1, owM true 47 15 ((p 0).map OpD.cs)⟩, ⟨g2, owM true 47 15 ((p 1).map OpD.cs)⟩, ⟨g3, owM true 47 15 ((p 2).map OpD.cs)⟩, ⟨g4, owM true 47 15 ((p 3).map OpD.cs)⟩, ⟨g5, owM true 47 15 ((p 4).map OpD.cs)⟩, ⟨g6, owM true 47 15 ((p 5).map OpD.cs)⟩, TK.mk 0 .off, TK.mk 0 .off]) 27 2 Try.func37 rfl 7 ?_
  refine AW.seq ?_
  refine AW.region ?_
  refine AL.op rfl (AOpB.op (op_box 7 rfl rfl rfl rfl rfl ?_))
  refine AL.no ?_
  refine AL.op rfl (AOpB.op (op_alloc 8 rfl ze_47 rfl ?_))
  refine AL.no ?_
  refine AL.ra ?_
  refine AL.nil ?_
  change AW _ _ _ _ _
  refine AW.seq ?_
  refine AW.seq ?_
  refine AW.region ?_
  refine AL.rm ?_
  refine AL.r (rd_peq_bx rfl pt_41 rfl rfl rfl) ?_
  refine AL.nil ?_
  change AW _ _ _ _ _
  refine AW.cond_f rfl ?_
  refine AW.skip ?_
  change AW _ _ _ _ _
  refine AW.seq ?_
  refine AW.seq ?_
  refine AW.freebox 3 rfl rfl (Nat.zero_lt_succ _) rfl ?_
  refine AW.norm (by simp only [anys, upds, offs, List.set_cons_zero, List.set_cons_succ]; rfl) (by (try simp only [anys, upds, offs, List.set_cons_zero, List.set_cons_succ]); (try rfl)) ?_
  refine AW.drawA (by kernel_rfl) ?_
  refine ADA.r 0 rfl (ARdP.a (rdP_move rfl rfl)) rfl ?_
  refine ADA.r 2 rfl (rdA_loadN_ep rfl ag_44 rfl (Nat.le_of_ble_eq_true rfl) rfl) rfl ?_
  refine ADA.b ?_
  refine ADB.mv 1 rfl (calloP (phave_c p g g1 g2 g3 g4 g5 g6) [0, 1, 2, 3, 4, 5, 6] ?_)
  rintro y os' ⟨rfl, rfl⟩
  refine ADB.noP ?_
  refine ADB.mv 3 rfl (AOpB.op (op_call (dhas_c (lensP p) ⟨3, n⟩) rfl (by kernel_rfl) rfl (none) ?_))
  rintro r rfl
  refine ADB.n ?_
  refine ADB.r 4 rfl (rdP_un rfl rfl (fun _ => rfl)) rfl ?_
  refine ADB.done (by kernel_rfl) ?_
  change AW _ _ _ _ _
  refine AW.cd rfl (fun h13 => ?_) (fun h13 => ?_)
  ·skip
   refine AW.seq ?_
   refine AW.region ?_
   refine AL.r (rd_build rfl pl_47 ze_47 rfl rfl) ?_
   refine AL.op rfl (op_store_ rfl rfl rfl rfl rfl sz_47 ?_)
   refine AL.no ?_
   refine AL.ra ?_
   refine AL.nil ?_
   change AW _ _ _ _ _
   refine AW.ret ?_
   repeat with_reducible first | refine thenA_ret ?_ | refine inBlockA_ret ?_
   with_reducible first | refine retO_ret ?_ | refine retO_normal ?_
   refine reso2P rfl (ResV.cells rfl rfl ag_47 (Nat.le_of_ble_eq_true rfl) rfl) rfl (ResV.tmp rfl) rfl ?_
   exact ⟨by unfold findP; rw [if_neg (by simp_all)]; rfl, rfl⟩
  ·skip
   refine AW.skip ?_
   change AW _ _ _ _ _
   refine AW.seq ?_
   obtain ⟨hb1, hb2, hb3⟩ := has_at (p := p) (i := 2) (n := n) (by simpa using h13)
   refine AW.drawA (by kernel_rfl) ?_
   refine ADA.r 0 rfl (ARdP.a (rdP_move rfl rfl)) rfl ?_
   refine ADA.r 1 rfl (ARdP.a (rdP_faddr_ep rfl fo_44_0 rfl)) rfl ?_
   refine ADA.r 2 rfl (rdA_load_ep rfl ag_3 rfl rfl) rfl ?_
   refine ADA.r 3 rfl (ARdP.a (rdP_arith_sub rfl rfl rfl (rfl : _ = (2 : Int)))) rfl ?_
   refine ADA.r 4 rfl (ARdP.a (rdP_nilc_bx rfl rfl rfl)) rfl ?_
   refine ADA.r 5 rfl (ARdP.a (rdP_faddr_bx rfl fo_114_0 rfl rfl ⟨_, _, rfl⟩)) rfl ?_
   refine ADA.r 6 rfl (ARdP.a (rdP_iaddr_bx_ 2 rfl ar_112 rfl rfl rfl)) rfl ?_
   refine ADA.r 8 rfl (ARdP.a (rdP_faddr_ep rfl fo_44_1 rfl)) rfl ?_
   refine ADA.r 9 rfl (rdA_load_ep rfl ag_3 rfl rfl) rfl ?_
   refine ADA.r 10 rfl (ARdP.a (rdP_arith_sub rfl rfl rfl (by first | exact IntWalk.i64_in _ (by omega) | rfl))) rfl ?_
   refine ADA.b ?_
   refine ADB.mv 7 rfl (AOpB.op (ARd.opB (rd_load_bx rfl ag_50 rfl rfl rfl) ?_))
   refine ADB.n ?_
   refine ADB.mv 11 rfl (AOpB.op (ARd.opB (rd_iaddr_owM rfl el_50 rfl rfl rfl (n := (n - 1).toNat) (by omega) (by simp only [List.length_map]; omega)) ?_))
   refine ADB.n ?_
   refine ADB.mv 12 rfl (AOpB.op (ARd.opB (rd_loadN_boM (n - 1).toNat rfl ag_47 rfl rfl rfl rfl (getA_map (by omega))) ?_))
   refine ADB.n ?_
   refine ADB.mv 13 rfl (AOpB.op (op_call (oown_c ((p 2)[(n - 1).toNat]?.getD zeroO) (hok.drops (i := 2) (by decide) (mem_getD (by omega)))) rfl (by kernel_rfl) rfl (none) ?_))
   rintro r rfl
   refine ADB.n ?_
   refine ADB.mv 14 rfl (op_store_ rfl rfl rfl rfl rfl sz_47 ?_)
   refine ADB.n ?_
   refine ADB.r 15 rfl (rdP_assign rfl rfl) rfl ?_
   refine ADB.done (by kernel_rfl) ?_
   change AW _ _ _ _ _
   refine AW.ret ?_
   repeat with_reducible first | refine thenA_ret ?_ | refine inBlockA_ret ?_
   with_reducible first | refine retO_ret ?_ | refine retO_normal ?_
   refine reso2P rfl (ResV.cells rfl rfl ag_47 (Nat.le_of_ble_eq_true rfl) rfl) rfl (ResV.tmp rfl) rfl ?_
   exact ⟨by unfold findP; rw [if_pos (by assumption)]; rfl, rfl⟩
theorem pfind_4 (n : Int) : ACo Try.prog 37 [.bx 0 g 0, .ag [AI 4, AI n]] (poolT g g1 g2 g3 g4 g5 g6 p) (fun y os' => y = .tu [(findP p ⟨4, n⟩).1.av, AI (findP p ⟨4, n⟩).2] ∧ os' = poolT g g1 g2 g3 g4 g5 g6 p) := by
  refine ACo.of' (st0 := [⟨g, .box 114 [.ow 1 g1, .ow 2 g2, .ow 3 g3, .ow 4 g4, .ow 5 g5, .ow 6 g6]⟩, ⟨g1, owM true 47 15 ((p 0).map OpD.cs)⟩, ⟨g2, owM true 47 15 ((p 1).map OpD.cs)⟩, ⟨g3, owM true 47 15 ((p 2).map OpD.cs)⟩, ⟨g4, owM true 47 15 ((p 3).map OpD.cs)⟩, ⟨g5, owM true 47 15 ((p 4).map OpD.cs)⟩, ⟨g6, owM true 47 15 ((p 5).map OpD.cs)⟩, TK.mk 0 .off, TK.mk 0 .off]) 27 2 Try.func37 rfl 7 ?_
  refine AW.seq ?_
  refine AW.region ?_
  refine AL.op rfl (AOpB.op (op_box 7 rfl rfl rfl rfl rfl ?_))
  refine AL.no ?_
  refine AL.op rfl (AOpB.op (op_alloc 8 rfl ze_47 rfl ?_))
  refine AL.no ?_
  refine AL.ra ?_
  refine AL.nil ?_
  change AW _ _ _ _ _
  refine AW.seq ?_
  refine AW.seq ?_
  refine AW.region ?_
  refine AL.rm ?_
  refine AL.r (rd_peq_bx rfl pt_41 rfl rfl rfl) ?_
  refine AL.nil ?_
  change AW _ _ _ _ _
  refine AW.cond_f rfl ?_
  refine AW.skip ?_
  change AW _ _ _ _ _
  refine AW.seq ?_
  refine AW.seq ?_
  refine AW.freebox 3 rfl rfl (Nat.zero_lt_succ _) rfl ?_
  refine AW.norm (by simp only [anys, upds, offs, List.set_cons_zero, List.set_cons_succ]; rfl) (by (try simp only [anys, upds, offs, List.set_cons_zero, List.set_cons_succ]); (try rfl)) ?_
  refine AW.drawA (by kernel_rfl) ?_
  refine ADA.r 0 rfl (ARdP.a (rdP_move rfl rfl)) rfl ?_
  refine ADA.r 2 rfl (rdA_loadN_ep rfl ag_44 rfl (Nat.le_of_ble_eq_true rfl) rfl) rfl ?_
  refine ADA.b ?_
  refine ADB.mv 1 rfl (calloP (phave_c p g g1 g2 g3 g4 g5 g6) [0, 1, 2, 3, 4, 5, 6] ?_)
  rintro y os' ⟨rfl, rfl⟩
  refine ADB.noP ?_
  refine ADB.mv 3 rfl (AOpB.op (op_call (dhas_c (lensP p) ⟨4, n⟩) rfl (by kernel_rfl) rfl (none) ?_))
  rintro r rfl
  refine ADB.n ?_
  refine ADB.r 4 rfl (rdP_un rfl rfl (fun _ => rfl)) rfl ?_
  refine ADB.done (by kernel_rfl) ?_
  change AW _ _ _ _ _
  refine AW.cd rfl (fun h13 => ?_) (fun h13 => ?_)
  ·skip
   refine AW.seq ?_
   refine AW.region ?_
   refine AL.r (rd_build rfl pl_47 ze_47 rfl rfl) ?_
   refine AL.op rfl (op_store_ rfl rfl rfl rfl rfl sz_47 ?_)
   refine AL.no ?_
   refine AL.ra ?_
   refine AL.nil ?_
   change AW _ _ _ _ _
   refine AW.ret ?_
   repeat with_reducible first | refine thenA_ret ?_ | refine inBlockA_ret ?_
   with_reducible first | refine retO_ret ?_ | refine retO_normal ?_
   refine reso2P rfl (ResV.cells rfl rfl ag_47 (Nat.le_of_ble_eq_true rfl) rfl) rfl (ResV.tmp rfl) rfl ?_
   exact ⟨by unfold findP; rw [if_neg (by simp_all)]; rfl, rfl⟩
  ·skip
   refine AW.skip ?_
   change AW _ _ _ _ _
   refine AW.seq ?_
   obtain ⟨hb1, hb2, hb3⟩ := has_at (p := p) (i := 3) (n := n) (by simpa using h13)
   refine AW.drawA (by kernel_rfl) ?_
   refine ADA.r 0 rfl (ARdP.a (rdP_move rfl rfl)) rfl ?_
   refine ADA.r 1 rfl (ARdP.a (rdP_faddr_ep rfl fo_44_0 rfl)) rfl ?_
   refine ADA.r 2 rfl (rdA_load_ep rfl ag_3 rfl rfl) rfl ?_
   refine ADA.r 3 rfl (ARdP.a (rdP_arith_sub rfl rfl rfl (rfl : _ = (3 : Int)))) rfl ?_
   refine ADA.r 4 rfl (ARdP.a (rdP_nilc_bx rfl rfl rfl)) rfl ?_
   refine ADA.r 5 rfl (ARdP.a (rdP_faddr_bx rfl fo_114_0 rfl rfl ⟨_, _, rfl⟩)) rfl ?_
   refine ADA.r 6 rfl (ARdP.a (rdP_iaddr_bx_ 3 rfl ar_112 rfl rfl rfl)) rfl ?_
   refine ADA.r 8 rfl (ARdP.a (rdP_faddr_ep rfl fo_44_1 rfl)) rfl ?_
   refine ADA.r 9 rfl (rdA_load_ep rfl ag_3 rfl rfl) rfl ?_
   refine ADA.r 10 rfl (ARdP.a (rdP_arith_sub rfl rfl rfl (by first | exact IntWalk.i64_in _ (by omega) | rfl))) rfl ?_
   refine ADA.b ?_
   refine ADB.mv 7 rfl (AOpB.op (ARd.opB (rd_load_bx rfl ag_50 rfl rfl rfl) ?_))
   refine ADB.n ?_
   refine ADB.mv 11 rfl (AOpB.op (ARd.opB (rd_iaddr_owM rfl el_50 rfl rfl rfl (n := (n - 1).toNat) (by omega) (by simp only [List.length_map]; omega)) ?_))
   refine ADB.n ?_
   refine ADB.mv 12 rfl (AOpB.op (ARd.opB (rd_loadN_boM (n - 1).toNat rfl ag_47 rfl rfl rfl rfl (getA_map (by omega))) ?_))
   refine ADB.n ?_
   refine ADB.mv 13 rfl (AOpB.op (op_call (oown_c ((p 3)[(n - 1).toNat]?.getD zeroO) (hok.drops (i := 3) (by decide) (mem_getD (by omega)))) rfl (by kernel_rfl) rfl (none) ?_))
   rintro r rfl
   refine ADB.n ?_
   refine ADB.mv 14 rfl (op_store_ rfl rfl rfl rfl rfl sz_47 ?_)
   refine ADB.n ?_
   refine ADB.r 15 rfl (rdP_assign rfl rfl) rfl ?_
   refine ADB.done (by kernel_rfl) ?_
   change AW _ _ _ _ _
   refine AW.ret ?_
   repeat with_reducible first | refine thenA_ret ?_ | refine inBlockA_ret ?_
   with_reducible first | refine retO_ret ?_ | refine retO_normal ?_
   refine reso2P rfl (ResV.cells rfl rfl ag_47 (Nat.le_of_ble_eq_true rfl) rfl) rfl (ResV.tmp rfl) rfl ?_
   exact ⟨by unfold findP; rw [if_pos (by assumption)]; rfl, rfl⟩
theorem pfind_5 (n : Int) : ACo Try.prog 37 [.bx 0 g 0, .ag [AI 5, AI n]] (poolT g g1 g2 g3 g4 g5 g6 p) (fun y os' => y = .tu [(findP p ⟨5, n⟩).1.av, AI (findP p ⟨5, n⟩).2] ∧ os' = poolT g g1 g2 g3 g4 g5 g6 p) := by
  refine ACo.of' (st0 := [⟨g, .box 114 [.ow 1 g1, .ow 2 g2, .ow 3 g3, .ow 4 g4, .ow 5 g5, .ow 6 g6]⟩, ⟨g1, owM true 47 15 ((p 0).map OpD.cs)⟩, ⟨g2, owM true 47 15 ((p 1).map OpD.cs)⟩, ⟨g3, owM true 47 15 ((p 2).map OpD.cs)⟩, ⟨g4, owM true 47 15 ((p 3).map OpD.cs)⟩, ⟨g5, owM true 47 15 ((p 4).map OpD.cs)⟩, ⟨g6, owM true 47 15 ((p 5).map OpD.cs)⟩, TK.mk 0 .off, TK.mk 0 .off]) 27 2 Try.func37 rfl 7 ?_
  refine AW.seq ?_
  refine AW.region ?_
  refine AL.op rfl (AOpB.op (op_box 7 rfl rfl rfl rfl rfl ?_))
  refine AL.no ?_
  refine AL.op rfl (AOpB.op (op_alloc 8 rfl ze_47 rfl ?_))
  refine AL.no ?_
  refine AL.ra ?_
  refine AL.nil ?_
  change AW _ _ _ _ _
  refine AW.seq ?_
  refine AW.seq ?_
  refine AW.region ?_
  refine AL.rm ?_
  refine AL.r (rd_peq_bx rfl pt_41 rfl rfl rfl) ?_
  refine AL.nil ?_
  change AW _ _ _ _ _
  refine AW.cond_f rfl ?_
  refine AW.skip ?_
  change AW _ _ _ _ _
  refine AW.seq ?_
  refine AW.seq ?_
  refine AW.freebox 3 rfl rfl (Nat.zero_lt_succ _) rfl ?_
  refine AW.norm (by simp only [anys, upds, offs, List.set_cons_zero, List.set_cons_succ]; rfl) (by (try simp only [anys, upds, offs, List.set_cons_zero, List.set_cons_succ]); (try rfl)) ?_
  refine AW.drawA (by kernel_rfl) ?_
  refine ADA.r 0 rfl (ARdP.a (rdP_move rfl rfl)) rfl ?_
  refine ADA.r 2 rfl (rdA_loadN_ep rfl ag_44 rfl (Nat.le_of_ble_eq_true rfl) rfl) rfl ?_
  refine ADA.b ?_
  refine ADB.mv 1 rfl (calloP (phave_c p g g1 g2 g3 g4 g5 g6) [0, 1, 2, 3, 4, 5, 6] ?_)
  rintro y os' ⟨rfl, rfl⟩
  refine ADB.noP ?_
  refine ADB.mv 3 rfl (AOpB.op (op_call (dhas_c (lensP p) ⟨5, n⟩) rfl (by kernel_rfl) rfl (none) ?_))
  rintro r rfl
  refine ADB.n ?_
  refine ADB.r 4 rfl (rdP_un rfl rfl (fun _ => rfl)) rfl ?_
  refine ADB.done (by kernel_rfl) ?_
  change AW _ _ _ _ _
  refine AW.cd rfl (fun h13 => ?_) (fun h13 => ?_)
  ·skip
   refine AW.seq ?_
   refine AW.region ?_
   refine AL.r (rd_build rfl pl_47 ze_47 rfl rfl) ?_
   refine AL.op rfl (op_store_ rfl rfl rfl rfl rfl sz_47 ?_)
   refine AL.no ?_
   refine AL.ra ?_
   refine AL.nil ?_
   change AW _ _ _ _ _
   refine AW.ret ?_
   repeat with_reducible first | refine thenA_ret ?_ | refine inBlockA_ret ?_
   with_reducible first | refine retO_ret ?_ | refine retO_normal ?_
   refine reso2P rfl (ResV.cells rfl rfl ag_47 (Nat.le_of_ble_eq_true rfl) rfl) rfl (ResV.tmp rfl) rfl ?_
   exact ⟨by unfold findP; rw [if_neg (by simp_all)]; rfl, rfl⟩
  ·skip
   refine AW.skip ?_
   change AW _ _ _ _ _
   refine AW.seq ?_
   obtain ⟨hb1, hb2, hb3⟩ := has_at (p := p) (i := 4) (n := n) (by simpa using h13)
   refine AW.drawA (by kernel_rfl) ?_
   refine ADA.r 0 rfl (ARdP.a (rdP_move rfl rfl)) rfl ?_
   refine ADA.r 1 rfl (ARdP.a (rdP_faddr_ep rfl fo_44_0 rfl)) rfl ?_
   refine ADA.r 2 rfl (rdA_load_ep rfl ag_3 rfl rfl) rfl ?_
   refine ADA.r 3 rfl (ARdP.a (rdP_arith_sub rfl rfl rfl (rfl : _ = (4 : Int)))) rfl ?_
   refine ADA.r 4 rfl (ARdP.a (rdP_nilc_bx rfl rfl rfl)) rfl ?_
   refine ADA.r 5 rfl (ARdP.a (rdP_faddr_bx rfl fo_114_0 rfl rfl ⟨_, _, rfl⟩)) rfl ?_
   refine ADA.r 6 rfl (ARdP.a (rdP_iaddr_bx_ 4 rfl ar_112 rfl rfl rfl)) rfl ?_
   refine ADA.r 8 rfl (ARdP.a (rdP_faddr_ep rfl fo_44_1 rfl)) rfl ?_
   refine ADA.r 9 rfl (rdA_load_ep rfl ag_3 rfl rfl) rfl ?_
   refine ADA.r 10 rfl (ARdP.a (rdP_arith_sub rfl rfl rfl (by first | exact IntWalk.i64_in _ (by omega) | rfl))) rfl ?_
   refine ADA.b ?_
   refine ADB.mv 7 rfl (AOpB.op (ARd.opB (rd_load_bx rfl ag_50 rfl rfl rfl) ?_))
   refine ADB.n ?_
   refine ADB.mv 11 rfl (AOpB.op (ARd.opB (rd_iaddr_owM rfl el_50 rfl rfl rfl (n := (n - 1).toNat) (by omega) (by simp only [List.length_map]; omega)) ?_))
   refine ADB.n ?_
   refine ADB.mv 12 rfl (AOpB.op (ARd.opB (rd_loadN_boM (n - 1).toNat rfl ag_47 rfl rfl rfl rfl (getA_map (by omega))) ?_))
   refine ADB.n ?_
   refine ADB.mv 13 rfl (AOpB.op (op_call (oown_c ((p 4)[(n - 1).toNat]?.getD zeroO) (hok.drops (i := 4) (by decide) (mem_getD (by omega)))) rfl (by kernel_rfl) rfl (none) ?_))
   rintro r rfl
   refine ADB.n ?_
   refine ADB.mv 14 rfl (op_store_ rfl rfl rfl rfl rfl sz_47 ?_)
   refine ADB.n ?_
   refine ADB.r 15 rfl (rdP_assign rfl rfl) rfl ?_
   refine ADB.done (by kernel_rfl) ?_
   change AW _ _ _ _ _
   refine AW.ret ?_
   repeat with_reducible first | refine thenA_ret ?_ | refine inBlockA_ret ?_
   with_reducible first | refine retO_ret ?_ | refine retO_normal ?_
   refine reso2P rfl (ResV.cells rfl rfl ag_47 (Nat.le_of_ble_eq_true rfl) rfl) rfl (ResV.tmp rfl) rfl ?_
   exact ⟨by unfold findP; rw [if_pos (by assumption)]; rfl, rfl⟩
theorem pfind_6 (n : Int) : ACo Try.prog 37 [.bx 0 g 0, .ag [AI 6, AI n]] (poolT g g1 g2 g3 g4 g5 g6 p) (fun y os' => y = .tu [(findP p ⟨6, n⟩).1.av, AI (findP p ⟨6, n⟩).2] ∧ os' = poolT g g1 g2 g3 g4 g5 g6 p) := by
  refine ACo.of' (st0 := [⟨g, .box 114 [.ow 1 g1, .ow 2 g2, .ow 3 g3, .ow 4 g4, .ow 5 g5, .ow 6 g6]⟩, ⟨g1, owM true 47 15 ((p 0).map OpD.cs)⟩, ⟨g2, owM true 47 15 ((p 1).map OpD.cs)⟩, ⟨g3, owM true 47 15 ((p 2).map OpD.cs)⟩, ⟨g4, owM true 47 15 ((p 3).map OpD.cs)⟩, ⟨g5, owM true 47 15 ((p 4).map OpD.cs)⟩, ⟨g6, owM true 47 15 ((p 5).map OpD.cs)⟩, TK.mk 0 .off, TK.mk 0 .off]) 27 2 Try.func37 rfl 7 ?_
  refine AW.seq ?_
  refine AW.region ?_
  refine AL.op rfl (AOpB.op (op_box 7 rfl rfl rfl rfl rfl ?_))
  refine AL.no ?_
  refine AL.op rfl (AOpB.op (op_alloc 8 rfl ze_47 rfl ?_))
  refine AL.no ?_
  refine AL.ra ?_
  refine AL.nil ?_
  change AW _ _ _ _ _
  refine AW.seq ?_
  refine AW.seq ?_
  refine AW.region ?_
  refine AL.rm ?_
  refine AL.r (rd_peq_bx rfl pt_41 rfl rfl rfl) ?_
  refine AL.nil ?_
  change AW _ _ _ _ _
  refine AW.cond_f rfl ?_
  refine AW.skip ?_
  change AW _ _ _ _ _
  refine AW.seq ?_
  refine AW.seq ?_
  refine AW.freebox 3 rfl rfl (Nat.zero_lt_succ _) rfl ?_
  refine AW.norm (by simp only [anys, upds, offs, List.set_cons_zero, List.set_cons_succ]; rfl) (by (try simp only [anys, upds, offs, List.set_cons_zero, List.set_cons_succ]); (try rfl)) ?_
  refine AW.drawA (by kernel_rfl) ?_
  refine ADA.r 0 rfl (ARdP.a (rdP_move rfl rfl)) rfl ?_
  refine ADA.r 2 rfl (rdA_loadN_ep rfl ag_44 rfl (Nat.le_of_ble_eq_true rfl) rfl) rfl ?_
  refine ADA.b ?_
  refine ADB.mv 1 rfl (calloP (phave_c p g g1 g2 g3 g4 g5 g6) [0, 1, 2, 3, 4, 5, 6] ?_)
  rintro y os' ⟨rfl, rfl⟩
  refine ADB.noP ?_
  refine ADB.mv 3 rfl (AOpB.op (op_call (dhas_c (lensP p) ⟨6, n⟩) rfl (by kernel_rfl) rfl (none) ?_))
  rintro r rfl
  refine ADB.n ?_
  refine ADB.r 4 rfl (rdP_un rfl rfl (fun _ => rfl)) rfl ?_
  refine ADB.done (by kernel_rfl) ?_
  change AW _ _ _ _ _
  refine AW.cd rfl (fun h13 => ?_) (fun h13 => ?_)
  ·skip
   refine AW.seq ?_
   refine AW.region ?_
   refine AL.r (rd_build rfl pl_47 ze_47 rfl rfl) ?_
   refine AL.op rfl (op_store_ rfl rfl rfl rfl rfl sz_47 ?_)
   refine AL.no ?_
   refine AL.ra ?_
   refine AL.nil ?_
   change AW _ _ _ _ _
   refine AW.ret ?_
   repeat with_reducible first | refine thenA_ret ?_ | refine inBlockA_ret ?_
   with_reducible first | refine retO_ret ?_ | refine retO_normal ?_
   refine reso2P rfl (ResV.cells rfl rfl ag_47 (Nat.le_of_ble_eq_true rfl) rfl) rfl (ResV.tmp rfl) rfl ?_
   exact ⟨by unfold findP; rw [if_neg (by simp_all)]; rfl, rfl⟩
  ·skip
   refine AW.skip ?_
   change AW _ _ _ _ _
   refine AW.seq ?_
   obtain ⟨hb1, hb2, hb3⟩ := has_at (p := p) (i := 5) (n := n) (by simpa using h13)
   refine AW.drawA (by kernel_rfl) ?_
   refine ADA.r 0 rfl (ARdP.a (rdP_move rfl rfl)) rfl ?_
   refine ADA.r 1 rfl (ARdP.a (rdP_faddr_ep rfl fo_44_0 rfl)) rfl ?_
   refine ADA.r 2 rfl (rdA_load_ep rfl ag_3 rfl rfl) rfl ?_
   refine ADA.r 3 rfl (ARdP.a (rdP_arith_sub rfl rfl rfl (rfl : _ = (5 : Int)))) rfl ?_
   refine ADA.r 4 rfl (ARdP.a (rdP_nilc_bx rfl rfl rfl)) rfl ?_
   refine ADA.r 5 rfl (ARdP.a (rdP_faddr_bx rfl fo_114_0 rfl rfl ⟨_, _, rfl⟩)) rfl ?_
   refine ADA.r 6 rfl (ARdP.a (rdP_iaddr_bx_ 5 rfl ar_112 rfl rfl rfl)) rfl ?_
   refine ADA.r 8 rfl (ARdP.a (rdP_faddr_ep rfl fo_44_1 rfl)) rfl ?_
   refine ADA.r 9 rfl (rdA_load_ep rfl ag_3 rfl rfl) rfl ?_
   refine ADA.r 10 rfl (ARdP.a (rdP_arith_sub rfl rfl rfl (by first | exact IntWalk.i64_in _ (by omega) | rfl))) rfl ?_
   refine ADA.b ?_
   refine ADB.mv 7 rfl (AOpB.op (ARd.opB (rd_load_bx rfl ag_50 rfl rfl rfl) ?_))
   refine ADB.n ?_
   refine ADB.mv 11 rfl (AOpB.op (ARd.opB (rd_iaddr_owM rfl el_50 rfl rfl rfl (n := (n - 1).toNat) (by omega) (by simp only [List.length_map]; omega)) ?_))
   refine ADB.n ?_
   refine ADB.mv 12 rfl (AOpB.op (ARd.opB (rd_loadN_boM (n - 1).toNat rfl ag_47 rfl rfl rfl rfl (getA_map (by omega))) ?_))
   refine ADB.n ?_
   refine ADB.mv 13 rfl (AOpB.op (op_call (oown_c ((p 5)[(n - 1).toNat]?.getD zeroO) (hok.drops (i := 5) (by decide) (mem_getD (by omega)))) rfl (by kernel_rfl) rfl (none) ?_))
   rintro r rfl
   refine ADB.n ?_
   refine ADB.mv 14 rfl (op_store_ rfl rfl rfl rfl rfl sz_47 ?_)
   refine ADB.n ?_
   refine ADB.r 15 rfl (rdP_assign rfl rfl) rfl ?_
   refine ADB.done (by kernel_rfl) ?_
   change AW _ _ _ _ _
   refine AW.ret ?_
   repeat with_reducible first | refine thenA_ret ?_ | refine inBlockA_ret ?_
   with_reducible first | refine retO_ret ?_ | refine retO_normal ?_
   refine reso2P rfl (ResV.cells rfl rfl ag_47 (Nat.le_of_ble_eq_true rfl) rfl) rfl (ResV.tmp rfl) rfl ?_
   exact ⟨by unfold findP; rw [if_pos (by assumption)]; rfl, rfl⟩
end
end Go.Proofs.Ytfjnkhanndkpfaa
