/- The law SchemaRoot, walked over abstract states: one root schema in raw memory, written into. No conditions. -/
import Derived.Test.YtdgcbhihmnhnaaaRawA
import Derived.Test.YtdgcbhihmnhnaaaBor
import Derived.Test.YtdgcbhihmnhnaaaSchR
namespace Go.Proofs.Ytdgcbhihmnhnaaa
set_option linter.unusedSimpArgs false
set_option linter.unusedVariables false
set_option maxRecDepth 100000
set_option maxRecDepth 100000
open Go.RowKit

inductive All2 {α β : Type} (R : α → β → Prop) : List α → List β → Prop
  | nil : All2 R [] []
  | cons {a : α} {b : β} {l : List α} {m : List β} (h : R a b) (t : All2 R l m) : All2 R (a :: l) (b :: m)
theorem All2.len {α β : Type} {R : α → β → Prop} {a : List α} {b : List β} (h : All2 R a b) : a.length = b.length := by
  induction h with
  | nil => rfl
  | cons _ _ ih => simp [ih]
theorem All2.get {α β : Type} {R : α → β → Prop} {a : List α} {b : List β} (h : All2 R a b) : ∀ {j : Nat} {z : β}, b[j]? = some z → ∃ y, a[j]? = some y ∧ R y z := by
  induction h with
  | nil => intro j z hj; cases hj
  | cons h t ih =>
    intro j z hj
    cases j with
    | zero => injection hj with hj; subst hj; exact ⟨_, rfl, h⟩
    | succ j => exact ih hj
/-- A cell as it was written, and as data. -/
def CellR (M : RM) (z z' : AV) : Prop := (∃ u, z = .sc u ∧ u.oneCell' = true ∧ RawS M u z') ∨ (z = .sl [] ∧ z' = .sl [])
theorem RawS.rows {M : RM} {b c sz : Nat} {T : TypeId} {vs : Array Value} {rows xs : List (List AV)} (hb : M b = some (T, vs)) (hcm : c ≤ maxLen) (hl : rows.length ≤ c) (h0 : 0 < rows.length) (hsz : 0 < sz) (hn : ∀ (i : Nat) (cs : List AV), rows[i]? = some cs → cs.length = sz) (hc : ∀ (i : Nat) (cs : List AV) (j : Nat) (u : Value), rows[i]? = some cs → cs[j]? = some (.sc u) → vs[i * sz + j]? = some u) (hz : ∀ (i : Nat) (cs : List AV) (j : Nat), rows[i]? = some cs → cs[j]? = some (.sl []) → ∃ A c, vs[i * sz + j]? = some (.slice A 0 c) ∧ c ≤ maxLen) (hr : All2 (All2 (CellR M)) rows xs) : RawS M (.slice (some ⟨b, 0, none⟩) rows.length c) (.sl xs) := by
  have key : ∀ (i j : Nat) (ds : List AV) (z' : AV), xs[i]? = some ds → ds[j]? = some z' → ∃ u, vs[i * sz + j]? = some u ∧ u.oneCell' = true ∧ RawS M u z' := fun i j ds z' hi hj => by
    obtain ⟨cs, h1, h2⟩ := hr.get hi
    obtain ⟨z, h3, h4⟩ := h2.get hj
    rcases h4 with ⟨u, rfl, h5, h6⟩ | ⟨rfl, rfl⟩
    · exact ⟨u, hc i cs j u h1 h3, h5, h6⟩
    · obtain ⟨A, cc, h5, h6⟩ := hz i cs j h1 h3
      exact ⟨_, h5, rfl, .sl0 A cc h6⟩
  have hlen : ∀ (i : Nat) (ds : List AV), xs[i]? = some ds → ds.length = sz := fun i ds hi => by
    obtain ⟨cs, h1, h2⟩ := hr.get hi
    rw [← h2.len]; exact hn i cs h1
  have hcell : ∀ i j, i < rows.length → j < sz → ∃ ds z', xs[i]? = some ds ∧ ds[j]? = some z' := fun i j hi hj => by
    have hix : i < xs.length := by rw [← hr.len]; exact hi
    have h1 := hlen i xs[i] (List.getElem?_eq_getElem hix)
    exact ⟨xs[i], xs[i][j]'(by omega), List.getElem?_eq_getElem hix, List.getElem?_eq_getElem (by omega)⟩
  refine .sl1 b rows.length c sz T vs xs (fun i j => if i < rows.length ∧ j < sz then (vs[i * sz + j]?).getD (.bool false) else .bool false) hr.len.symm h0 hl hcm hsz hb hlen (fun i j hi hj => ?_) (fun i j => ?_) (fun i j ds z' hi hj => ?_)
  · obtain ⟨ds, z', h1, h2⟩ := hcell i j hi hj
    obtain ⟨u, h3, _, _⟩ := key i j ds z' h1 h2
    rw [if_pos ⟨hi, hj⟩, h3]
    rfl
  · by_cases h : i < rows.length ∧ j < sz
    · obtain ⟨ds, z', h1, h2⟩ := hcell i j h.1 h.2
      obtain ⟨u, h3, h4, _⟩ := key i j ds z' h1 h2
      rw [if_pos h, h3]
      exact h4
    · rw [if_neg h]; rfl
  · obtain ⟨u, h3, _, h5⟩ := key i j ds z' hi hj
    have hi' : i < rows.length := by rw [hr.len]; exact (List.getElem?_eq_some_iff.1 hi).1
    have hj' : j < sz := by have := hlen i ds hi; have := (List.getElem?_eq_some_iff.1 hj).1; omega
    rw [if_pos ⟨hi', hj'⟩, h3]
    exact h5
/-- A root schema in raw memory. -/
structure RootM (M : RM) (b c b1 c1 : Nat) (vs vs1 : Array Value) : Prop where
  fld : M b = some (47, vs)
  str : M b1 = some (9, vs1)
  ne : b ≠ b1
  size : 35 ≤ vs.size
  size1 : 3 ≤ vs1.size
  cases : vs[26]? = some (.slice (some ⟨b1, 0, none⟩) 3 c1)
  raw : RawS M (.slice (some ⟨b, 0, none⟩) 5 c) (.sl (rootD.map FldD.cs))
set_option maxHeartbeats 1000000 in
theorem sroot_r (G : Nat) (M : RM) : ACo Try.prog 38 [] [⟨G, .obj (RawP M)⟩] (fun y os' => ∃ b c b1 c1 vs vs1 M', y = .sc (.slice (some ⟨b, 0, none⟩) 5 c) ∧ os' = [⟨G, .obj (RawP M')⟩] ∧ RootM M' b c b1 c1 vs vs1) := by
  refine ACo.of' (st0 := [⟨G, .obj (RawP M)⟩, TK.mk 0 .off, TK.mk 0 .off]) 13 2 Try.func38 rfl 1 ?_; refine AW.seq ?_; refine AW.region ?_; refine AL.ra ?_; refine AL.nil ?_; change AW _ _ _ _ _; refine AW.seq ?_; refine AW.region ?_; refine AL.r (rd_build rfl pl_44 ze_44 rfl rfl) ?_; refine AL.r (rd_build rfl pl_47 ze_47 rfl rfl) ?_; refine AL.r (rd_build rfl pl_44 ze_44 rfl rfl) ?_; refine AL.r (rd_build rfl pl_47 ze_47 rfl rfl) ?_; refine AL.r (rd_build rfl pl_44 ze_44 rfl rfl) ?_; refine AL.r (rd_build rfl pl_47 ze_47 rfl rfl) ?_; refine AL.r (rd_build rfl pl_44 ze_44 rfl rfl) ?_; refine AL.op rfl (AOpB.op (bs_own 1 rfl ap_45 ze_9 rfl rfl rfl ?_)); refine AL.no ?_; refine AL.own_raw (q := 0) 8 rfl rfl rfl ?_; intro b1 c1 vs1 hbb1 hmb1 hsb1 hlb1 hnb1 hcb1 hzb1; refine AL.no ?_; refine AL.r (rd_build rfl pl_47 ze_47 rfl rfl) ?_; refine AL.r (rd_build rfl pl_44 ze_44 rfl rfl) ?_; refine AL.r (rd_build rfl pl_47 ze_47 rfl rfl) ?_
  refine AL.op rfl (AOpB.op (bs_own 2 rfl ap_42 ze_47 rfl rfl rfl ?_)); refine AL.no ?_; refine AL.own_raw (q := 0) 12 rfl rfl rfl ?_; intro b c vs hbb hmb hsb hlb hnb hcb hzb; refine AL.no ?_; refine AL.ra ?_; refine AL.nil ?_; change AW _ _ _ _ _; refine AW.ret ?_
  repeat with_reducible first | refine thenA_ret ?_ | refine inBlockA_ret ?_
  with_reducible first | refine retO_ret ?_ | refine retO_normal ?_
  refine reso1S rfl (ResV.tmp rfl) rfl ?_
  skip
  have hne : b ≠ b1 := fun e => by (subst e; rw [RM.set_self] at hbb; cases hbb)
  have hs1 : RawS ((M.set b1 (9, vs1)).set b (47, vs)) _ (.sl (csS [[115, 109, 97, 108, 108], [109, 101, 100, 105, 117, 109], [108, 97, 114, 103, 101]])) := RawS.rows (T := 9) (vs := vs1) (by rw [RM.set_ne _ _ hne.symm]; exact RM.set_self _ _ _) hmb1 hlb1 (Nat.zero_lt_succ _) (by decide) hnb1 hcb1 hzb1 (.cons (.cons (.inl ⟨_, rfl, rfl, .sc _⟩) .nil) (.cons (.cons (.inl ⟨_, rfl, rfl, .sc _⟩) .nil) (.cons (.cons (.inl ⟨_, rfl, rfl, .sc _⟩) .nil) .nil)))
  refine ⟨b, c, b1, c1, vs, vs1, _, rfl, rfl, RM.set_self _ _ _, by rw [RM.set_ne _ _ hne.symm]; exact RM.set_self _ _ _, hne, ?_, ?_, ?_, ?_⟩
  · simp at hlb; omega
  · simp at hlb1; omega
  · exact hcb 3 _ 5 _ rfl rfl
  · exact RawS.rows (RM.set_self _ _ _) hmb hlb (Nat.zero_lt_succ _) (by decide) hnb hcb hzb (.cons (.cons (.inl ⟨_, rfl, rfl, .sc _⟩) (.cons (.inl ⟨_, rfl, rfl, .sc _⟩) (.cons (.inl ⟨_, rfl, rfl, .sc _⟩) (.cons (.inl ⟨_, rfl, rfl, .sc _⟩) (.cons (.inl ⟨_, rfl, rfl, .sc _⟩) (.cons (.inr ⟨rfl, rfl⟩) (.cons (.inl ⟨_, rfl, rfl, .sc _⟩) .nil))))))) (.cons (.cons (.inl ⟨_, rfl, rfl, .sc _⟩) (.cons (.inl ⟨_, rfl, rfl, .sc _⟩) (.cons (.inl ⟨_, rfl, rfl, .sc _⟩) (.cons (.inl ⟨_, rfl, rfl, .sc _⟩) (.cons (.inl ⟨_, rfl, rfl, .sc _⟩) (.cons (.inr ⟨rfl, rfl⟩) (.cons (.inl ⟨_, rfl, rfl, .sc _⟩) .nil))))))) (.cons (.cons (.inl ⟨_, rfl, rfl, .sc _⟩) (.cons (.inl ⟨_, rfl, rfl, .sc _⟩) (.cons (.inl ⟨_, rfl, rfl, .sc _⟩) (.cons (.inl ⟨_, rfl, rfl, .sc _⟩) (.cons (.inl ⟨_, rfl, rfl, .sc _⟩) (.cons (.inr ⟨rfl, rfl⟩) (.cons (.inl ⟨_, rfl, rfl, .sc _⟩) .nil))))))) (.cons (.cons (.inl ⟨_, rfl, rfl, .sc _⟩) (.cons (.inl ⟨_, rfl, rfl, .sc _⟩) (.cons (.inl ⟨_, rfl, rfl, .sc _⟩) (.cons (.inl ⟨_, rfl, rfl, .sc _⟩) (.cons (.inl ⟨_, rfl, rfl, .sc _⟩) (.cons (.inl ⟨_, rfl, rfl, hs1⟩) (.cons (.inl ⟨_, rfl, rfl, .sc _⟩) .nil))))))) (.cons (.cons (.inl ⟨_, rfl, rfl, .sc _⟩) (.cons (.inl ⟨_, rfl, rfl, .sc _⟩) (.cons (.inl ⟨_, rfl, rfl, .sc _⟩) (.cons (.inl ⟨_, rfl, rfl, .sc _⟩) (.cons (.inl ⟨_, rfl, rfl, .sc _⟩) (.cons (.inr ⟨rfl, rfl⟩) (.cons (.inl ⟨_, rfl, rfl, .sc _⟩) .nil))))))) .nil)))))
theorem rroot14 : AC Try.prog 40 [] (fun x => x = .o 47 7 (rootD.map FldD.cs)) := by
  refine AC.of' 29 12 Try.func40 rfl ?_; change AW _ _ _ _ [TK.mk 0 .off, TK.mk 0 .off, TK.mk 0 .off, TK.mk 0 .off, TK.mk 0 .off, TK.mk 0 .off, TK.mk 0 .off, TK.mk 0 .off, TK.mk 0 .off, TK.mk 0 .off, TK.mk 0 .off, TK.mk 0 .off]; refine AW.seq ?_; refine AW.region ?_; refine AL.ra ?_; refine AL.nil ?_; change AW _ _ _ _ _; refine AW.seq ?_; refine AW.region ?_; refine AL.op rfl (AOpB.op (bs_own 0 rfl ap_42 ze_47 rfl rfl rfl ?_)); refine AL.n ?_; refine AL.ra ?_; refine AL.nil ?_; change AW _ _ _ _ _; refine AW.seq ?_; refine AW.region ?_; refine AL.rm ?_; refine AL.r (rd_build rfl pl_44 ze_44 rfl rfl) ?_; refine AL.r (rd_build rfl pl_47 ze_47 rfl rfl) ?_; refine AL.op rfl (AOpB.op (bs_set rfl ap_42 ze_47 rfl rfl ?_)); refine AL.n ?_; refine AL.op rfl (op_append rfl ap_42 rfl rfl (src_s rfl) (by first | omega | (simp; omega) | simp) (by first | omega | (simp; omega) | simp) ?_); refine AL.n ?_
  refine AL.ra ?_; refine AL.nil ?_; change AW _ _ _ _ _; refine AW.seq ?_; refine AW.region ?_; refine AL.rm ?_; refine AL.r (rd_build rfl pl_44 ze_44 rfl rfl) ?_; refine AL.r (rd_build rfl pl_47 ze_47 rfl rfl) ?_; refine AL.op rfl (AOpB.op (bs_set rfl ap_42 ze_47 rfl rfl ?_)); refine AL.n ?_; refine AL.op rfl (op_append rfl ap_42 rfl rfl (src_s rfl) (by first | omega | (simp; omega) | simp) (by first | omega | (simp; omega) | simp) ?_); refine AL.n ?_; refine AL.ra ?_; refine AL.nil ?_; change AW _ _ _ _ _; refine AW.seq ?_; refine AW.region ?_; refine AL.rm ?_; refine AL.r (rd_build rfl pl_44 ze_44 rfl rfl) ?_; refine AL.r (rd_build rfl pl_47 ze_47 rfl rfl) ?_; refine AL.op rfl (AOpB.op (bs_set rfl ap_42 ze_47 rfl rfl ?_)); refine AL.n ?_; refine AL.op rfl (op_append rfl ap_42 rfl rfl (src_s rfl) (by first | omega | (simp; omega) | simp) (by first | omega | (simp; omega) | simp) ?_); refine AL.n ?_
  refine AL.ra ?_; refine AL.nil ?_; change AW _ _ _ _ _; refine AW.seq ?_; refine AW.region ?_; refine AL.rm ?_; refine AL.r (rd_build rfl pl_44 ze_44 rfl rfl) ?_; refine AL.op rfl (AOpB.op (bs_set rfl ap_45 ze_9 rfl rfl ?_)); refine AL.n ?_; refine AL.r (rd_build rfl pl_47 ze_47 rfl rfl) ?_; refine AL.op rfl (AOpB.op (bs_set rfl ap_42 ze_47 rfl rfl ?_)); refine AL.n ?_; refine AL.op rfl (op_append rfl ap_42 rfl rfl (src_s rfl) (by first | omega | (simp; omega) | simp) (by first | omega | (simp; omega) | simp) ?_); refine AL.n ?_; refine AL.ra ?_; refine AL.nil ?_; change AW _ _ _ _ _; refine AW.seq ?_; refine AW.region ?_; refine AL.rm ?_; refine AL.r (rd_build rfl pl_44 ze_44 rfl rfl) ?_; refine AL.r (rd_build rfl pl_47 ze_47 rfl rfl) ?_; refine AL.op rfl (AOpB.op (bs_set rfl ap_42 ze_47 rfl rfl ?_)); refine AL.n ?_; refine AL.op rfl (op_append rfl ap_42 rfl rfl (src_s rfl) (by first | omega | (simp; omega) | simp) (by first | omega | (simp; omega) | simp) ?_)
  refine AL.n ?_; refine AL.ra ?_; refine AL.nil ?_; change AW _ _ _ _ _; refine AW.ret ?_; change ResA _ _ _ _ _; refine res1o rfl (ResV.tmp rfl) rfl ?_; rfl
theorem root_same : AC Try.prog 39 [.sl (rootD.map FldD.cs), .sl (rootD.map FldD.cs)] (fun r => r = .s (AB true)) :=
  (ssame_c rootD rootD (by decide)).mono fun r h => by rw [h, decide_eq_true rfl]
theorem root_rsame : AC Try.prog 25 [.sl (rootD.map FldD.cs), .sl (rootD.map FldD.cs)] (fun r => r = .s (AB true)) :=
  (rsame14s rootD rootD ⟨by decide, by decide⟩).mono fun r h => by rw [h, decide_eq_true rfl]
set_option maxHeartbeats 1000000 in
theorem schroot_c : AC Try.prog 8 [] (fun r => r = .s (AB true)) := by
  refine AC.of' 46 1 Try.func8 rfl ?_; change AW _ _ _ _ [TK.mk 0 .off]; refine AW.seq ?_; refine AW.region ?_; refine AL.ra ?_; refine AL.nil ?_; change AW _ _ _ _ _; refine AW.seq ?_; refine AW.seq ?_; refine AW.region ?_; refine AL.op rfl (AOpB.op (op_call (awake14) rfl (by kernel_rfl) rfl (none) ?_)); rintro r rfl; refine AL.no ?_; refine AL.r (rd_un rfl rfl (fun _ => rfl)) ?_; refine AL.nil ?_; change AW _ _ _ _ _; refine AW.cond_f rfl ?_; refine AW.skip ?_; change AW _ _ _ _ _; refine AW.seq ?_; refine AW.raw0 0 rfl ?_; refine AW.norm rfl (by (try simp only [anys, upds, offs, List.set_cons_zero, List.set_cons_succ]); (try rfl)) ?_; refine AW.region ?_; refine AL.op rfl (calloS (sroot_r 1 _) [0] ?_); rintro y os' ⟨b, c, b1, c1, vs, vs1, M, rfl, rfl, hR⟩; refine AL.noS ?_; refine AL.op rfl (AOpB.op (op_call (root_c) rfl (by kernel_rfl) rfl (none) ?_)); rintro r rfl; refine AL.no ?_; refine AL.ra ?_
  refine AL.ra ?_; refine AL.nil ?_; change AW _ _ _ _ _; refine AW.seq ?_; refine AW.seq ?_; refine AW.region ?_; refine AL.rm ?_; refine AL.rm ?_; refine AL.op rfl (AOpB.op (op_call_b2 root_same rfl (by kernel_rfl) (BArg.raw 0 rfl rfl hR.raw) (BArg.sl rfl) (fun r hr => ⟨_, hr, ?_⟩))); refine AL.no ?_; refine AL.r (rd_un rfl rfl (fun _ => rfl)) ?_; refine AL.rm ?_; refine AL.ro (rd_move rfl rfl) ?_; refine AL.on rfl rfl rfl (AOpB.op (op_call (rroot14) rfl (by kernel_rfl) rfl (none) ?_)); rintro r rfl; refine AL.no ?_; refine AL.on rfl rfl rfl (AOpB.op (op_call_b2 root_rsame rfl (by kernel_rfl) (BArg.raw 0 rfl rfl hR.raw) (BArg.sl rfl) (fun r hr => ⟨_, hr, ?_⟩))); refine AL.no ?_; refine AL.ro (rd_un rfl rfl (fun _ => rfl)) ?_; refine AL.r (rd_pick_f rfl rfl rfl) ?_; refine AL.rm ?_; refine AL.ro (rd_move rfl rfl) ?_; refine AL.ro (rd_len_sc rfl el_42 rfl) ?_; refine AL.ro (rd_bin rfl rfl rfl (fun _ => rfl)) ?_
  refine AL.r (rd_pick_f rfl rfl rfl) ?_; refine AL.rm ?_; refine AL.fk (d := 22) rfl (fun h22 => ?_) (fun h22 => ?_)
  ·exact absurd h22 (by decide)
  ·refine AL.n ?_; refine AL.ro (rd_move rfl rfl) ?_; refine AL.ro (rd_iaddr_sc rfl el_42 rfl rfl (n := 3) rfl (by omega)) ?_; refine AL.ro (rd_faddr_sc rfl fo_47_3 rfl) ?_; refine AL.ro (rd_load_raw (q := 0) rfl ag_45 rfl rfl hR.fld hR.cases) ?_; refine AL.ro (rd_len_sc rfl el_45 rfl) ?_; refine AL.ro (rd_bin rfl rfl rfl (fun _ => rfl)) ?_; refine AL.r (rd_pick_f rfl rfl rfl) ?_; refine AL.nil ?_; change AW _ _ _ _ _; refine AW.cd rfl (fun h29 => ?_) (fun h29 => ?_)
   ·exact absurd h29 (by decide)
   ·refine AW.skip ?_; change AW _ _ _ _ _; refine AW.seq ?_; refine AW.region ?_; refine AL.rm ?_; refine AL.r (rd_iaddr_sc rfl el_42 rfl rfl (n := 3) rfl (by omega)) ?_; refine AL.r (rd_faddr_sc rfl fo_47_3 rfl) ?_; refine AL.r (rd_load_raw (q := 0) rfl ag_45 rfl rfl hR.fld hR.cases) ?_; refine AL.r (rd_iaddr_sc rfl el_45 rfl rfl (n := 0) rfl (by omega)) ?_; refine AL.op rfl (op_store_raw (q := 0) rfl rfl rfl hR.str  rfl rfl rfl sz_9  (by have := hR.size1; omega) ?_); refine AL.no ?_; refine AL.nil ?_; change AW _ _ _ _ _; refine AW.seq ?_; refine AW.region ?_; refine AL.rm ?_; refine AL.r (rd_iaddr_sc rfl el_42 rfl rfl (n := 0) rfl (by omega)) ?_; refine AL.r (rd_faddr_sc rfl fo_47_2 rfl) ?_; refine AL.op rfl (op_store_raw (q := 0) rfl rfl rfl ((RM.set_ne _ _ hR.ne).trans hR.fld)  rfl rfl rfl sz_9  (by have := hR.size; omega) ?_); refine AL.no ?_; refine AL.nil ?_; change AW _ _ _ _ _
    refine AW.seq ?_; refine AW.region ?_; refine AL.rm ?_; refine AL.op rfl (AOpB.op (op_call (rroot14) rfl (by kernel_rfl) rfl (none) ?_)); rintro r rfl; refine AL.no ?_; refine AL.op rfl (AOpB.op (op_call (root_rsame) rfl (by kernel_rfl) rfl (none) ?_)); rintro r rfl; refine AL.no ?_; refine AL.rm ?_; refine AL.on rfl rfl rfl (AOpB.op (op_call (root_c) rfl (by kernel_rfl) rfl (none) ?_)); rintro r rfl; refine AL.no ?_; refine AL.ro (rd_move rfl rfl) ?_; refine AL.on rfl rfl rfl (AOpB.op (op_call (root_rsame) rfl (by kernel_rfl) rfl (none) ?_)); rintro r rfl; refine AL.no ?_; refine AL.r (rd_pick_t rfl rfl rfl) ?_; refine AL.ra ?_; refine AL.nil ?_; change AW _ _ _ _ _; refine AW.ret ?_; change ResA _ _ _ _ _; refine res1 rfl (ResV.tmp rfl) rfl ?_
    first | rfl | simp
theorem walk_SchemaRoot (w : World) :
    Calls Try.prog 8 #[] w fun e w' => e = .returned (.bool true) ∧ Below w.heap.size w w' :=
  schroot_c.law (vs := []) rfl rep_nil
end Go.Proofs.Ytdgcbhihmnhnaaa
