/- The law BackReturns, walked over abstract states. No conditions. -/
import Derived.Test.YtdgcbhihmnhnaaaBkE
import Derived.Test.YtdgcbhihmnhnaaaLenK
namespace Go.Proofs.Ytdgcbhihmnhnaaa
set_option linter.unusedSimpArgs false
set_option linter.unusedVariables false
set_option maxRecDepth 100000
set_option maxRecDepth 100000
open Go.RowKit Go.ChangeShapes Go.WideShapes Go.ChangeAt Go.Deep

theorem apply_nil {l : List FldD} {x : LensD} (h : ¬ (applyL l x).2 = 0) : (applyL l x).1 = [] := by
  unfold applyL at h ⊢
  split
  · rfl
  rename_i h1
  rw [if_neg h1] at h
  split
  · rfl
  rename_i h2
  rw [if_neg h2] at h
  cases hw : foldW (goesL x) l with
  | none => rfl
  | some o =>
    rw [hw] at h
    simp only at h ⊢
    cases hp : foldP (arrL l x).1 o with
    | none => rfl
    | some m => rw [hp] at h; exact absurd rfl h
theorem apply_x (l : List FldD) (x : LensD) (hs : smallS l) (hx : x.Small) : AC Try.prog 23 [.sl (l.map FldD.cs), x.av] (fun r => ∃ m n, m = (applyL l x).1 ∧ n = (applyL l x).2 ∧ r = .s (.tu [.sl (m.map FldD.cs), AI n])) :=
  (apply_c l x hs hx).mono fun r h => ⟨_, _, rfl, rfl, h⟩
set_option maxHeartbeats 1000000 in
theorem returns_c (l : List FldD) (x : LensD) : AC Try.prog 4 [.sl (l.map FldD.cs), x.av] (fun r => r = .s (AB true)) := by
  change AC _ _ [.sl (l.map FldD.cs), .ag [AI x.kind, AI x.at_.scope, AS x.at_.group, AS x.at_.name, AS x.name, AS x.other, AI x.factor, AI x.field.at_.scope, AS x.field.at_.group, AS x.field.at_.name, AI x.field.kind, AS x.field.dflt, .sl (csS x.field.cases), AI x.field.worth, .sl (x.forth.map PairD.cs), .sl (x.back.map PairD.cs)]] _; refine AC.of' 50 2 Try.func4 rfl ?_; change AW _ _ _ _ [TK.mk 0 .off, TK.mk 0 .off]; refine AW.seq ?_; refine AW.region ?_; refine AL.op rfl (AOpB.op (op_box 0 rfl rfl rfl rfl rfl ?_)); refine AL.n ?_; refine AL.ra ?_; refine AL.nil ?_; change AW _ _ _ _ _; refine AW.seq ?_; refine AW.seq ?_; refine AW.region ?_; refine AL.op rfl (AOpB.op (op_call (awake16) rfl (by kernel_rfl) rfl (none) ?_)); rintro r rfl; refine AL.n ?_; refine AL.r (rd_un rfl rfl (fun _ => rfl)) ?_; refine AL.nil ?_; change AW _ _ _ _ _; refine AW.cond_f rfl ?_; refine AW.skip ?_; change AW _ _ _ _ _
  refine AW.seq ?_; refine AW.seq ?_; refine AW.region ?_; refine AL.rm ?_; refine AL.op rfl (AOpB.op (op_call (rheavy14 _) rfl (by kernel_rfl) rfl (none) ?_)); rintro r rfl; refine AL.n ?_; refine AL.rm ?_; refine AL.fk (d := 15) rfl (fun h15 => ?_) (fun h15 => ?_)
  ·refine AL.n ?_; refine AL.rf ?_; refine AL.rf ?_; refine AL.r (rd_pick_t rfl rfl rfl) ?_; refine AL.nil ?_; change AW _ _ _ _ _; refine AW.cond_t rfl ?_; refine AW.seq ?_; refine AW.region ?_; refine AL.ra ?_; refine AL.nil ?_; change AW _ _ _ _ _; refine AW.ret ?_; change ResA _ _ _ _ _; refine res1 rfl (ResV.tmp rfl) rfl ?_; rfl
  ·refine AL.n ?_; refine AL.ro (rd_loadN_bx rfl ag_50 rfl rfl (Nat.le_of_ble_eq_true rfl) rfl) ?_; refine AL.on rfl rfl rfl (AOpB.op (op_call (rheavyl_c x) rfl (by kernel_rfl) rfl (none) ?_)); rintro r rfl; refine AL.n ?_; refine AL.r (rd_pick_f rfl rfl rfl) ?_; refine AL.nil ?_; change AW _ _ _ _ _; refine AW.cd rfl (fun h18 => ?_) (fun h18 => ?_)
   ·refine AW.seq ?_; refine AW.region ?_; refine AL.ra ?_; refine AL.nil ?_; change AW _ _ _ _ _; refine AW.ret ?_; change ResA _ _ _ _ _; refine res1 rfl (ResV.tmp rfl) rfl ?_; rfl
   ·refine AW.skip ?_; change AW _ _ _ _ _; refine AW.seq ?_; refine AW.region ?_
    (have sl := heavyS_small (l := l) (by assumption)); (have sx := heavyL_small (x := x) (by assumption))
    refine AL.rm ?_; refine AL.r (rd_loadN_bx rfl ag_50 rfl rfl (Nat.le_of_ble_eq_true rfl) rfl) ?_; refine AL.op rfl (AOpB.op (op_call (apply_x l x sl sx) rfl (by kernel_rfl) rfl (none) ?_)); rintro r ⟨m, n, hm, hn, rfl⟩; refine AL.n ?_; refine AL.rm ?_; refine AL.r (rd_extract rfl rfl rfl) ?_; refine AL.r (rd_extract rfl rfl rfl) ?_; refine AL.ra ?_; refine AL.ra ?_; refine AL.nil ?_; change AW _ _ _ _ _; refine AW.seq ?_; refine AW.seq ?_; refine AW.region ?_; refine AL.rm ?_; refine AL.r (rd_bin rfl rfl rfl (fun _ => rfl)) ?_; refine AL.nil ?_; change AW _ _ _ _ _; refine AW.cd rfl (fun h26 => ?_) (fun h26 => ?_)
    ·refine AW.seq ?_; refine AW.region ?_; refine AL.rm ?_; refine AL.r (rd_len_sl rfl el_42 rfl) ?_; refine AL.r (rd_bin rfl rfl rfl (fun _ => rfl)) ?_; refine AL.ra ?_; refine AL.nil ?_; change AW _ _ _ _ _; refine AW.ret ?_; change ResA _ _ _ _ _; refine res1 rfl (ResV.tmp rfl) rfl ?_
     (have e : m = [] := by (rw [hm]; exact apply_nil (by rw [← hn]; assumption))); rw [e]; rfl
    ·refine AW.skip ?_; change AW _ _ _ _ _; refine AW.seq ?_; refine AW.region ?_
     (have h0 : (applyL l x).2 = 0 := by rw [← hn]; simp_all); (have ha := app_of h0)
     refine AL.r (rd_loadN_bx rfl ag_50 rfl rfl (Nat.le_of_ble_eq_true rfl) rfl) ?_; refine AL.op rfl (AOpB.op (op_call (binv_t x sx ha.rx) rfl (by kernel_rfl) rfl (none) ?_)); rintro r ⟨y, hy, rfl⟩; refine AL.n ?_; refine AL.rm ?_; refine AL.r (rd_extract rfl rfl rfl) ?_; refine AL.r (rd_extract rfl rfl rfl) ?_; refine AL.op rfl (AOpB.op (op_alloc 1 rfl ze_50 rfl ?_)); refine AL.n ?_; refine AL.op rfl (op_store_ rfl rfl rfl rfl rfl sz_50 ?_); refine AL.b ?_; refine AL.ra ?_; refine AL.nil ?_; change AW _ _ _ _ _; refine AW.seq ?_; refine AW.region ?_
     (have hb := apply_c m y (by rw [hm]; exact (right_small ha.right).1) (by rw [hy]; exact sx.inv)); (rw [show applyL m y = (l, 0) by rw [hm, hy]; exact apply_back h0] at hb)
     refine AL.rm ?_; refine AL.r (rd_loadN_bx rfl ag_50 rfl rfl (Nat.le_of_ble_eq_true rfl) rfl) ?_; refine AL.op rfl (AOpB.op (op_call (hb) rfl (by kernel_rfl) rfl (none) ?_)); rintro r rfl; refine AL.n ?_; refine AL.rm ?_; refine AL.r (rd_extract rfl rfl rfl) ?_; refine AL.r (rd_extract rfl rfl rfl) ?_; refine AL.ra ?_; refine AL.ra ?_; refine AL.nil ?_; change AW _ _ _ _ _; refine AW.seq ?_; refine AW.region ?_; refine AL.rm ?_; refine AL.r (rd_bin rfl rfl rfl (fun _ => rfl)) ?_; refine AL.rm ?_; refine AL.fk (d := 43) rfl (fun h43 => ?_) (fun h43 => ?_)
     ·refine AL.n ?_; refine AL.ro (rd_move rfl rfl) ?_; refine AL.ro (rd_bin rfl rfl rfl (fun _ => rfl)) ?_; refine AL.r (rd_pick_t rfl rfl rfl) ?_; refine AL.rm ?_; refine AL.fk (d := 47) rfl (fun h47 => ?_) (fun h47 => ?_)
      ·refine AL.n ?_; refine AL.ro (rd_move rfl rfl) ?_; refine AL.ro (rd_move rfl rfl) ?_; refine AL.on rfl rfl rfl (AOpB.op (op_call (rsame14s l l sl) rfl (by kernel_rfl) rfl (none) ?_)); rintro r rfl; refine AL.n ?_; refine AL.r (rd_pick_t rfl rfl rfl) ?_; refine AL.ra ?_; refine AL.nil ?_; change AW _ _ _ _ _; refine AW.ret ?_; change ResA _ _ _ _ _; refine res1 rfl (ResV.tmp rfl) rfl ?_
       first | rfl | simp
      ·exact (h47 trivial).elim
     ·exact (h43 trivial).elim
theorem walk_BackReturns (w : World) (v0 : Value) (l0 : List FldD) (rp0 : RepS AnyB w v0 (.sl (l0.map FldD.cs))) (v1 : Value) (x1 : LensD) (rp1 : RepS AnyB w v1 x1.av) :
    Calls Try.prog 4 #[v0, v1] w fun e w' => e = .returned (.bool true) ∧ Below w.heap.size w w' :=
  (returns_c l0 x1).law (vs := [v0, v1]) rfl (rep_cons rp0 (rep_cons rp1 rep_nil))
end Go.Proofs.Ytdgcbhihmnhnaaa
