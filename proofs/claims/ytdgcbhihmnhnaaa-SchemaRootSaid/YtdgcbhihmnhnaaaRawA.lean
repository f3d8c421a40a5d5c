/- Own copies of fields and schemas, in raw memory, walked over abstract states. -/
import Derived.Test.YtdgcbhihmnhnaaaRaw
import Derived.Test.YtdgcbhihmnhnaaaSchG
namespace Go.Proofs.Ytdgcbhihmnhnaaa
set_option linter.unusedSimpArgs false
set_option linter.unusedVariables false
set_option maxRecDepth 100000
set_option maxRecDepth 100000
open Go.RowKit

/-- A slice of texts in raw memory: nil, or a block of texts. -/
def Hd (M : RM) (v : Value) : Prop := (∃ A c, v = .slice A 0 c) ∨ ∃ (b n c : Nat) (vs : Array Value), v = .slice (some ⟨b, 0, none⟩) n c ∧ M b = some (9, vs) ∧ n ≤ vs.size ∧ n ≤ 1000000
def HdA (M : RM) (z : AV) : Prop := z = .sl [] ∨ ∃ (b n c : Nat) (vs : Array Value), z = .sc (.slice (some ⟨b, 0, none⟩) n c) ∧ M b = some (9, vs) ∧ n ≤ vs.size ∧ n ≤ 1000000
/-- Blocks of texts keep their size, blocks of fields keep their size and their slices of cases. -/
structure Keep (M M' : RM) : Prop where
  str : ∀ b vs, M b = some (9, vs) → ∃ vs', M' b = some (9, vs') ∧ vs'.size = vs.size
  fld : ∀ b vs, M b = some (47, vs) → ∃ vs', M' b = some (47, vs') ∧ vs'.size = vs.size ∧ ∀ i : Nat, vs'[i * 7 + 5]? = vs[i * 7 + 5]?
theorem Keep.refl (M : RM) : Keep M M := ⟨fun b vs h => ⟨vs, h, rfl⟩, fun b vs h => ⟨vs, h, rfl, fun _ => rfl⟩⟩
theorem Keep.trans {A B C : RM} (h : Keep A B) (k : Keep B C) : Keep A C := ⟨fun b vs hb => by
  obtain ⟨x, h1, h2⟩ := h.str b vs hb
  obtain ⟨y, k1, k2⟩ := k.str b x h1
  exact ⟨y, k1, k2.trans h2⟩, fun b vs hb => by
  obtain ⟨x, h1, h2, h3⟩ := h.fld b vs hb
  obtain ⟨y, k1, k2, k3⟩ := k.fld b x h1
  exact ⟨y, k1, k2.trans h2, fun i => (k3 i).trans (h3 i)⟩⟩
theorem Keep.new {M : RM} {b : Nat} (r : TypeId × Array Value) (h : M b = none) : Keep M (M.set b r) := ⟨fun j vs hj => by
  have e : j ≠ b := fun e => by subst e; rw [h] at hj; cases hj
  exact ⟨vs, by rw [RM.set_ne M r e]; exact hj, rfl⟩, fun j vs hj => by
  have e : j ≠ b := fun e => by subst e; rw [h] at hj; cases hj
  exact ⟨vs, by rw [RM.set_ne M r e]; exact hj, rfl, fun _ => rfl⟩⟩
theorem Hd.keep {M M' : RM} {v : Value} (h : Hd M v) (k : Keep M M') : Hd M' v := by
  rcases h with h | ⟨b, n, c, vs, h1, h2, h3⟩
  · exact .inl h
  · obtain ⟨vs', k1, k2⟩ := k.str b vs h2
    exact .inr ⟨b, n, c, vs', h1, k1, by rw [k2]; exact h3.1, h3.2⟩
theorem HdA.keep {M M' : RM} {z : AV} (h : HdA M z) (k : Keep M M') : HdA M' z := by
  rcases h with h | ⟨b, n, c, vs, h1, h2, h3⟩
  · exact .inl h
  · obtain ⟨vs', k1, k2⟩ := k.str b vs h2
    exact .inr ⟨b, n, c, vs', h1, k1, by rw [k2]; exact h3.1, h3.2⟩
theorem fown_r (G : Nat) (M : RM) (f : FldD) (hc : f.cases.length ≤ 1000000) : ACo Try.prog 94 [f.av] [⟨G, .obj (RawP M)⟩] (fun y os' => ∃ z M', y = .ag [AI f.at_.scope, AS f.at_.group, AS f.at_.name, AI f.kind, AS f.dflt, z, AI f.worth] ∧ os' = [⟨G, .obj (RawP M')⟩] ∧ Keep M M' ∧ HdA M' z) := by
  obtain ⟨a, kd, d, cs, w⟩ := f
  cases cs with
  | nil =>
    refine ACo.of' (st0 := [⟨G, .obj (RawP M)⟩, TK.mk 0 .off, TK.mk 0 .off, TK.mk 0 .off]) 7 3 Try.func94 rfl 1 ?_; refine AW.seq ?_; refine AW.region ?_; refine AL.op rfl (AOpB.op (op_box 1 rfl rfl rfl rfl rfl ?_)); refine AL.no ?_; refine AL.op rfl (AOpB.op (op_alloc 2 rfl ze_47 rfl ?_)); refine AL.no ?_; refine AL.nil ?_; change AW _ _ _ _ _; refine AW.seq ?_; refine AW.region ?_; refine AL.r (rd_faddr_bx rfl fo_47_3 rfl rfl ⟨_, _, rfl⟩) ?_; refine AL.r (rd_load_bx rfl ag_45 rfl rfl rfl) ?_; refine AL.op rfl (AOpB.op (op_append_nn rfl ap_45 rfl (src_s rfl) ?_)); refine AL.no ?_; refine AL.r (rd_faddr_bx rfl fo_47_3 rfl rfl ⟨_, _, rfl⟩) ?_; refine AL.op rfl (op_store_ rfl rfl rfl rfl rfl sz_45 ?_); refine AL.no ?_; refine AL.nil ?_; change AW _ _ _ _ _; refine AW.seq ?_; refine AW.region ?_; refine AL.r (rd_loadN_bx rfl ag_47 rfl rfl (Nat.le_of_ble_eq_true rfl) rfl) ?_; refine AL.op rfl (op_store_ rfl rfl rfl rfl rfl sz_47 ?_)
    refine AL.no ?_; refine AL.nil ?_; change AW _ _ _ _ _; refine AW.ret ?_
    repeat with_reducible first | refine thenA_ret ?_ | refine inBlockA_ret ?_
    with_reducible first | refine retO_ret ?_ | refine retO_normal ?_
    refine reso1S rfl (ResV.cells rfl rfl ag_47 (Nat.le_of_ble_eq_true rfl) rfl) rfl ?_; exact ⟨_, M, rfl, rfl, Keep.refl M, .inl rfl⟩
  | cons c0 cs =>
    have hc' : cs.length + 1 ≤ 1000000 := by simpa using hc
    refine ACo.of' (st0 := [⟨G, .obj (RawP M)⟩, TK.mk 0 .off, TK.mk 0 .off, TK.mk 0 .off]) 7 3 Try.func94 rfl 1 ?_; refine AW.seq ?_; refine AW.region ?_; refine AL.op rfl (AOpB.op (op_box 1 rfl rfl rfl rfl rfl ?_)); refine AL.no ?_; refine AL.op rfl (AOpB.op (op_alloc 2 rfl ze_47 rfl ?_)); refine AL.no ?_; refine AL.nil ?_; change AW _ _ _ _ _; refine AW.seq ?_; refine AW.region ?_; refine AL.r (rd_faddr_bx rfl fo_47_3 rfl rfl ⟨_, _, rfl⟩) ?_; refine AL.r (rd_load_bx rfl ag_45 rfl rfl rfl) ?_; refine AL.op rfl (AOpB.op (op_append0 3 rfl ap_45 (.inr rfl) rfl (src_s rfl) (by first | (simp; done) | exact csS_ne) (by simp only [csS_len, List.length_cons]; omega) (by simp only [csS_len, List.length_cons]; omega) ?_)); refine AL.no ?_; refine AL.own_raw (q := 0) 5 rfl rfl rfl ?_; intro b c vs hbb hmb hsb hlb hnb hcb hzb; refine AL.no ?_; refine AL.r (rd_faddr_bx rfl fo_47_3 rfl rfl ⟨_, _, rfl⟩) ?_
    refine AL.op rfl (op_store_ rfl rfl rfl rfl rfl sz_45 ?_); refine AL.no ?_; refine AL.nil ?_; change AW _ _ _ _ _; refine AW.seq ?_; refine AW.region ?_; refine AL.r (rd_loadN_bx rfl ag_47 rfl rfl (Nat.le_of_ble_eq_true rfl) rfl) ?_; refine AL.op rfl (op_store_ rfl rfl rfl rfl rfl sz_47 ?_); refine AL.no ?_; refine AL.nil ?_; change AW _ _ _ _ _; refine AW.ret ?_
    repeat with_reducible first | refine thenA_ret ?_ | refine inBlockA_ret ?_
    with_reducible first | refine retO_ret ?_ | refine retO_normal ?_
    refine reso1S rfl (ResV.cells rfl rfl ag_47 (Nat.le_of_ble_eq_true rfl) rfl) rfl ?_; exact ⟨_, _, rfl, rfl, Keep.new _ hbb, .inr ⟨b, _, c, vs, rfl, RM.set_self _ _ _, by rw [hsb]; simp only [List.length_cons, csS_len] at hlb ⊢; omega, by first | omega | (simp only [List.length_cons, csS_len]; omega)⟩⟩
/-- Rows of fields as an own slice has them, their cases in raw memory. -/
def RowsH (M : RM) (rows : List (List AV)) : Prop := ∀ r ∈ rows, ∃ a b c d e z w, r = [.sc a, .sc b, .sc c, .sc d, .sc e, z, .sc w] ∧ HdA M z
theorem RowsH.keep {M M' : RM} {rows : List (List AV)} (h : RowsH M rows) (k : Keep M M') : RowsH M' rows := fun r hr => by
  obtain ⟨a, b, c, d, e, z, w, h1, h2⟩ := h r hr
  exact ⟨a, b, c, d, e, z, w, h1, h2.keep k⟩
theorem RowsH.add {M M' : RM} {rows : List (List AV)} (h : RowsH M rows) (k : Keep M M') {a b c d e w : Value} {z : AV} (hz : HdA M' z) : RowsH M' (rows ++ [[.sc a, .sc b, .sc c, .sc d, .sc e, z, .sc w]]) := fun r hr => by
  rcases List.mem_append.1 hr with hr | hr
  · exact h.keep k r hr
  · obtain rfl := List.mem_singleton.1 hr
    exact ⟨a, b, c, d, e, z, w, rfl, hz⟩
/-- A slice of fields in raw memory. -/
def Jag (M : RM) (v : Value) : Prop := (∃ A c, v = .slice A 0 c) ∨ ∃ (b n c : Nat) (vs : Array Value), v = .slice (some ⟨b, 0, none⟩) n c ∧ M b = some (47, vs) ∧ (n * 7 ≤ vs.size ∧ n ≤ 1000000) ∧ ∀ i, i < n → ∃ h, vs[i * 7 + 5]? = some h ∧ Hd M h
theorem Jag.keep {M M' : RM} {v : Value} (h : Jag M v) (k : Keep M M') : Jag M' v := by
  rcases h with h | ⟨b, n, c, vs, h1, h2, h3, h4⟩
  · exact .inl h
  · obtain ⟨vs', k1, k2, k3⟩ := k.fld b vs h2
    exact .inr ⟨b, n, c, vs', h1, k1, ⟨by rw [k2]; exact h3.1, h3.2⟩, fun i hi => by
      obtain ⟨x, a1, a2⟩ := h4 i hi
      exact ⟨x, (k3 i).trans a1, a2.keep k⟩⟩
/-- Rows that became raw memory. -/
theorem Jag.of {M : RM} {b c : Nat} {vs : Array Value} {rows : List (List AV)} (hr : RowsH M rows) (hb : M b = none) (hs : vs.size = c * 7) (hl : rows.length ≤ c) (hm : rows.length ≤ 1000000) (hc : ∀ (i : Nat) (cs : List AV) (j : Nat) (u : Value), rows[i]? = some cs → cs[j]? = some (.sc u) → vs[i * 7 + j]? = some u) (hz : ∀ (i : Nat) (cs : List AV) (j : Nat), rows[i]? = some cs → cs[j]? = some (.sl []) → ∃ A c, vs[i * 7 + j]? = some (.slice A 0 c) ∧ c ≤ maxLen) : Jag (M.set b (47, vs)) (.slice (some ⟨b, 0, none⟩) rows.length c) := by
  refine .inr ⟨b, rows.length, c, vs, rfl, RM.set_self _ _ _, ⟨by rw [hs]; exact Nat.mul_le_mul_right _ hl, hm⟩, fun i hi => ?_⟩; obtain ⟨a1, a2, a3, a4, a5, z, a7, e, h⟩ := hr rows[i] (List.getElem_mem hi)
  have hi' : rows[i]? = some rows[i] := List.getElem?_eq_getElem hi
  rcases h with rfl | ⟨b', n', c', vs', rfl, h5, h6⟩
  · obtain ⟨A, cc, h1, _⟩ := hz i _ 5 hi' (by rw [e]; rfl)
    exact ⟨_, h1, .inl ⟨A, cc, rfl⟩⟩
  · exact ⟨_, hc i _ 5 _ hi' (by rw [e]; rfl), Hd.keep (.inr ⟨b', n', c', vs', rfl, h5, h6⟩) (Keep.new _ hb)⟩
set_option maxHeartbeats 1000000 in
theorem sown_r (G : Nat) (M : RM) (l : List FldD) (hl : smallS l) : ACo Try.prog 41 [.sl (l.map FldD.cs)] [⟨G, .obj (RawP M)⟩] (fun y os' => ∃ v M', y = .sc v ∧ os' = [⟨G, .obj (RawP M')⟩] ∧ Keep M M' ∧ Jag M' v) := by
  have hl1 := hl.1
  refine ACo.of' (st0 := [⟨G, .obj (RawP M)⟩, TK.mk 0 .off, TK.mk 0 .off, TK.mk 0 .off, TK.mk 0 .off]) 21 4 Try.func41 rfl 1 ?_; refine AW.seq ?_; refine AW.region ?_; refine AL.ra ?_; refine AL.nil ?_; change AW _ _ _ _ _; refine AW.seq ?_; refine AW.region ?_; refine AL.rm ?_; refine AL.r (rd_len_sl rfl el_42 rfl) ?_; refine AL.op rfl (AOpB.op (op_make0 1 rfl ap_42 rfl rfl rfl (by omega) (by omega) rfl ?_)); refine AL.no ?_; refine AL.ra ?_; refine AL.nil ?_; change AW _ _ _ _ _; refine AW.seq ?_; refine AW.seq ?_; refine AW.region ?_; refine AL.rm ?_; refine AL.r (rd_len_sl rfl el_42 rfl) ?_; refine AL.rm ?_; refine AL.nil ?_; change AW _ _ _ _ _; refine AW.block ?_; refine AW.loopM (ι := Nat × Nat × RM × List (List AV)) [5, 12, 13, 14, 15, 16, 17, 18, 19, 20] (fun ⟨k, g, N, rows⟩ => [(11, AI (k : Int)), (3, .ow 1 g)]) [2, 3, 4] (fun ⟨k, g, N, rows⟩ => [(1, ⟨g, .own 47 7 rows⟩), (0, ⟨G, .obj (RawP N)⟩)]) (fun ⟨k, g, N, rows⟩ => k ≤ l.length ∧ rows.length = k ∧ Keep M N ∧ RowsH N rows) (fun ⟨k, g, N, rows⟩ => l.length - k) ⟨0, 1, M, []⟩ (⟨Nat.zero_le _, rfl, Keep.refl M, fun r hr => by simp at hr⟩) (by simp only [anys, upds, offs, List.set_cons_zero, List.set_cons_succ]; repeat (first | exact Wk.nil | refine Wk.same ?_ | refine Wk.any ?_)) (by simp only [anys, upds, offs, List.set_cons_zero, List.set_cons_succ]; repeat (first | exact Sk.nil _ | refine Sk.same _ ?_ | refine Sk.scr _ (by decide) ?_)) ?_
  rintro ⟨k, g, N, rows⟩ gs hJ; refine AW.norm (by simp only [anys, upds, offs, List.set_cons_zero, List.set_cons_succ]; rfl) (by (try simp only [anys, upds, offs, List.set_cons_zero, List.set_cons_succ]); (try rfl)) ?_; obtain ⟨hk, hrl, hkk, hrr⟩ := hJ; refine AW.seq ?_; refine AW.region ?_; refine AL.r (rd_bin rfl rfl rfl (fun _ => rfl)) ?_; refine AL.nil ?_; change AW _ _ _ _ _; refine AW.seq ?_; refine AW.cd rfl (fun h12 => ?_) (fun h12 => ?_)
  ·refine AW.skip ?_; change AW _ _ _ _ _; refine AW.seq ?_; refine AW.block ?_; refine AW.seq ?_; refine AW.region ?_; refine AL.r (rd_iaddr_sl rfl el_42 rfl rfl rfl (get_mapA (by omega)) rfl) ?_; refine AL.r (rd_loadN_ep rfl ag_47 rfl (Nat.le_of_ble_eq_true rfl) rfl) ?_; refine AL.op rfl (AOpB.op (op_alloc 2 rfl ze_47 rfl ?_)); refine AL.no ?_; refine AL.op rfl (op_store_ rfl rfl rfl rfl rfl sz_47 ?_); refine AL.no ?_; refine AL.nil ?_; change AW _ _ _ _ _; refine AW.region ?_; refine AL.rm ?_; refine AL.r (rd_loadN_bx rfl ag_47 rfl rfl (Nat.le_of_ble_eq_true rfl) rfl) ?_; refine AL.op rfl (op_callo (fown_r G N (l[k]'(by omega)) (by have := hl.2 _ (List.getElem_mem (show k < l.length by omega)); omega)) rfl (by kernel_rfl) [0] (by decide) (by simp only [FldD.cs, List.map_cons, List.map_nil, renT, renC_owM, renC_box, renC_own, renC_nown, renC_obj, renC_off, ren0, List.getD_cons_zero, List.getD_cons_succ]; exact ⟨rfl, trivial⟩) rfl (by simp only [FldD.cs, cleanS, cle_owM, cle_own, cle_nown, cle_obj, cle_off, cle_box, okC, liveA, List.take_succ_cons, List.take_zero, List.all_cons, List.all_nil, List.getElem?_cons_zero, List.getElem?_cons_succ, isO_owM, isO_own, isO_nown, TC.isB, beq_self_eq_true, Bool.and_self, Bool.and_true, ok1, ok2, List.map_cons, List.map_nil]) (by simp only [FldD.cs, cleanS, cle_owM, cle_own, cle_nown, cle_obj, cle_off, cle_box, okC, liveA, List.take_succ_cons, List.take_zero, List.all_cons, List.all_nil, List.getElem?_cons_zero, List.getElem?_cons_succ, isO_owM, isO_own, isO_nown, TC.isB, beq_self_eq_true, Bool.and_self, Bool.and_true, ok1, ok2, List.map_cons, List.map_nil]) ?_)
   rintro y os' ⟨z, N', rfl, rfl, hkp, hzz⟩; refine AL.no ?_ (by (try simp only [FldD.cs, putA, evA, List.getD_cons_zero, List.getD_cons_succ, List.set_cons_zero, List.set_cons_succ, List.length_map, KR, splA, List.map_cons, List.map_nil, List.length_append, List.length_cons, List.length_nil, List.drop_zero, csS_len, csS_take, csS_drop, csS_app, byA_len, byA_take, byA_drop, byA_app, ← List.map_take, ← List.map_drop, ← List.map_append, List.take_succ_cons, List.take_zero, List.drop_succ_cons, List.cons_append, List.nil_append, Nat.zero_add, Nat.reduceAdd, Nat.reduceMul, Nat.add_zero, Nat.mul_one, putT, renT, renC_owM, renC_box, renC_own, renC_nown, renC_obj, renC_off, ren2, ren1, ren0, ok1, ok2]); (try rfl)) (by (try simp only [FldD.cs, putA, evA, List.getD_cons_zero, List.getD_cons_succ, List.set_cons_zero, List.set_cons_succ, List.length_map, KR, splA, List.map_cons, List.map_nil, List.length_append, List.length_cons, List.length_nil, List.drop_zero, csS_len, csS_take, csS_drop, csS_app, byA_len, byA_take, byA_drop, byA_app, ← List.map_take, ← List.map_drop, ← List.map_append, List.take_succ_cons, List.take_zero, List.drop_succ_cons, List.cons_append, List.nil_append, Nat.zero_add, Nat.reduceAdd, Nat.reduceMul, Nat.add_zero, Nat.mul_one, putT, renT, renC_owM, renC_box, renC_own, renC_nown, renC_obj, renC_off, ren2, ren1, ren0, ok1, ok2]); (try rfl))
   rcases hzz with rfl | ⟨b1, n1, c1, vs1, rfl, h1, h2⟩
   ·refine AL.no ?_; refine AL.op rfl (AOpB.op (bs_set rfl ap_42 ze_47 rfl rfl ?_)); refine AL.no ?_; refine AL.op rfl (op_append rfl ap_42 rfl rfl (src_s rfl) (by simp only [List.length_cons, List.length_nil]; omega) (by simp only [List.length_cons, List.length_nil]; omega) ?_); refine AL.no ?_; refine AL.ra ?_; refine AL.nil ?_; change AW _ _ _ _ _; refine AW.region ?_; refine AL.r (rd_arith_add rfl rfl rfl (by first | exact IntWalk.i64_in _ (by omega) | rfl)) ?_; refine AL.rm ?_; refine AL.nil ?_
    first
      | refine ⟨⟨k + 1, g + 1, N', rows ++ [[AI (l[k]'(by omega)).at_.scope, AS (l[k]'(by omega)).at_.group, AS (l[k]'(by omega)).at_.name, AI (l[k]'(by omega)).kind, AS (l[k]'(by omega)).dflt, .sc (.slice (some ⟨b1, 0, none⟩) n1 c1), AI (l[k]'(by omega)).worth]]⟩, ?_, ?_, ?_, ?_⟩
        ·exact ⟨by omega, by simp [hrl], hkk.trans hkp, hrr.add hkp (.inr ⟨b1, n1, c1, vs1, rfl, h1, h2⟩)⟩
        ·first | omega | (simp only []; omega)
        ·simp only [anys, upds, offs, List.set_cons_zero, List.set_cons_succ]; repeat (first | exact Wk.nil | refine Wk.same ?_ | refine Wk.any ?_)
        ·simp only [anys, upds, offs, List.set_cons_zero, List.set_cons_succ]; repeat (first | exact Sk.nil _ | refine Sk.same _ ?_ | refine Sk.scr _ (by decide) ?_)
      | refine ⟨⟨k + 1, g + 1, N', rows ++ [[AI (l[k]'(by omega)).at_.scope, AS (l[k]'(by omega)).at_.group, AS (l[k]'(by omega)).at_.name, AI (l[k]'(by omega)).kind, AS (l[k]'(by omega)).dflt, .sl [], AI (l[k]'(by omega)).worth]]⟩, ?_, ?_, ?_, ?_⟩
        ·exact ⟨by omega, by simp [hrl], hkk.trans hkp, hrr.add hkp (.inl rfl)⟩
        ·first | omega | (simp only []; omega)
        ·simp only [anys, upds, offs, List.set_cons_zero, List.set_cons_succ]; repeat (first | exact Wk.nil | refine Wk.same ?_ | refine Wk.any ?_)
        ·simp only [anys, upds, offs, List.set_cons_zero, List.set_cons_succ]; repeat (first | exact Sk.nil _ | refine Sk.same _ ?_ | refine Sk.scr _ (by decide) ?_)
   ·refine AL.no ?_; refine AL.op rfl (AOpB.op (bs_set rfl ap_42 ze_47 rfl rfl ?_)); refine AL.no ?_; refine AL.op rfl (op_append rfl ap_42 rfl rfl (src_s rfl) (by simp only [List.length_cons, List.length_nil]; omega) (by simp only [List.length_cons, List.length_nil]; omega) ?_); refine AL.no ?_; refine AL.ra ?_; refine AL.nil ?_; change AW _ _ _ _ _; refine AW.region ?_; refine AL.r (rd_arith_add rfl rfl rfl (by first | exact IntWalk.i64_in _ (by omega) | rfl)) ?_; refine AL.rm ?_; refine AL.nil ?_
    first
      | refine ⟨⟨k + 1, g + 1, N', rows ++ [[AI (l[k]'(by omega)).at_.scope, AS (l[k]'(by omega)).at_.group, AS (l[k]'(by omega)).at_.name, AI (l[k]'(by omega)).kind, AS (l[k]'(by omega)).dflt, .sc (.slice (some ⟨b1, 0, none⟩) n1 c1), AI (l[k]'(by omega)).worth]]⟩, ?_, ?_, ?_, ?_⟩
        ·exact ⟨by omega, by simp [hrl], hkk.trans hkp, hrr.add hkp (.inr ⟨b1, n1, c1, vs1, rfl, h1, h2⟩)⟩
        ·first | omega | (simp only []; omega)
        ·simp only [anys, upds, offs, List.set_cons_zero, List.set_cons_succ]; repeat (first | exact Wk.nil | refine Wk.same ?_ | refine Wk.any ?_)
        ·simp only [anys, upds, offs, List.set_cons_zero, List.set_cons_succ]; repeat (first | exact Sk.nil _ | refine Sk.same _ ?_ | refine Sk.scr _ (by decide) ?_)
      | refine ⟨⟨k + 1, g + 1, N', rows ++ [[AI (l[k]'(by omega)).at_.scope, AS (l[k]'(by omega)).at_.group, AS (l[k]'(by omega)).at_.name, AI (l[k]'(by omega)).kind, AS (l[k]'(by omega)).dflt, .sl [], AI (l[k]'(by omega)).worth]]⟩, ?_, ?_, ?_, ?_⟩
        ·exact ⟨by omega, by simp [hrl], hkk.trans hkp, hrr.add hkp (.inl rfl)⟩
        ·first | omega | (simp only []; omega)
        ·simp only [anys, upds, offs, List.set_cons_zero, List.set_cons_succ]; repeat (first | exact Wk.nil | refine Wk.same ?_ | refine Wk.any ?_)
        ·simp only [anys, upds, offs, List.set_cons_zero, List.set_cons_succ]; repeat (first | exact Sk.nil _ | refine Sk.same _ ?_ | refine Sk.scr _ (by decide) ?_)
  ·refine AW.exit ?_; change AW _ _ _ _ _; refine AW.seq ?_; refine AW.own_raw (q := 0) 3 rfl rfl rfl ?_; intro b c vs hbb hmb hsb hlb hnb hcb hzb; refine AW.norm (by simp only [anys, upds, offs, List.set_cons_zero, List.set_cons_succ]; rfl) (by (try simp only [anys, upds, offs, List.set_cons_zero, List.set_cons_succ]); (try rfl)) ?_; refine AW.region ?_; refine AL.rm ?_; refine AL.ra ?_; refine AL.nil ?_; change AW _ _ _ _ _; refine AW.ret ?_
   repeat with_reducible first | refine thenA_ret ?_ | refine inBlockA_ret ?_
   with_reducible first | refine retO_ret ?_ | refine retO_normal ?_
   refine reso1 rfl (Nat.le_of_ble_eq_true rfl) (by simp only [FldD.cs, cleanS, cle_owM, cle_own, cle_nown, cle_obj, cle_off, cle_box, okC, liveA, List.take_succ_cons, List.take_zero, List.all_cons, List.all_nil, List.getElem?_cons_zero, List.getElem?_cons_succ, isO_owM, isO_own, isO_nown, TC.isB, beq_self_eq_true, Bool.and_self, Bool.and_true, ok1, ok2, List.map_cons, List.map_nil]) (ResV.tmp rfl) rfl (by simp only [FldD.cs, cleanS, cle_owM, cle_own, cle_nown, cle_obj, cle_off, cle_box, okC, liveA, List.take_succ_cons, List.take_zero, List.all_cons, List.all_nil, List.getElem?_cons_zero, List.getElem?_cons_succ, isO_owM, isO_own, isO_nown, TC.isB, beq_self_eq_true, Bool.and_self, Bool.and_true, ok1, ok2, List.map_cons, List.map_nil]) ?_; exact ⟨_, _, rfl, rfl, hkk.trans (Keep.new _ hbb), Jag.of hrr hbb hsb hlb (by omega) hcb hzb⟩
end Go.Proofs.Ytdgcbhihmnhnaaa
