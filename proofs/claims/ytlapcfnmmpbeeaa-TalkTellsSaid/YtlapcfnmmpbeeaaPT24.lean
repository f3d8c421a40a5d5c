/- A part of a proof. -/
import Derived.Lib.AppendStr
import Derived.Lib.ConvBytes
import Derived.Test.YtlapcfnmmpbeeaaPT05
set_option linter.unusedSimpArgs false
set_option linter.unusedVariables false
namespace Go.Proofs.Ytlapcfnmmpbeeaa
open Go.RowKit
theorem strCells_sv (l : List UInt8) : Go.Lib.strCells ⟨l.toArray⟩ = bvs l := by simp [Go.Lib.strCells, bvs, bv]
theorem op_append_str {P : Program} {o : Oper} {t : List AV} {st : List TK} {x s : Operand} {K : AV → List TK → Prop} {T U e k g : Nat} {xs : List (List AV)} {l : List UInt8} (ho : o.op = .call { callee := .builtin .append, args := #[s, x], argTypes := #[T, U] }) (hT : P.underlying T = some (.slice e)) (hI : (P.info? e).map (fun i => (i.zero, i.size, i.bytes)) = some (some (Value.int IntKind.u8 0), 1, 1)) (hU : isStr P U = true)
    (hs : evA t s = .ow k g) (hk : st[k]? = some ⟨g, .own e 1 xs⟩) (hx : evV t x = some (sv l)) (hsz : xs.length + l.length ≤ 140737488355328)
    (h : K (.ow k (g + 1)) (st.set k ⟨g + 1, .own e 1 (xs ++ byA l)⟩)) : AOp P o t st K := fun F ρ w0 w a hst hm next Q hn => by
  cases hi : P.info? e with
  | none => rw [hi] at hI; cases hI
  | some i =>
  rw [hi] at hI
  simp only [Option.map_some, Option.some.injEq, Prod.mk.injEq] at hI
  obtain ⟨hz0, hz1, hz2⟩ := hI
  have hu : P.underlying U = some .string := by unfold isStr at hU; split at hU <;> simp_all
  have hxv := hm.val hx
  have hv := hm.ev s
  rw [hs] at hv
  have hv := hv.ow_inv hk
  obtain ⟨vs, h1, h2, h3, h4, h5⟩ := hst.own k g e 1 xs hk
  have hge := hst.geB k _ hk (by simp)
  have hsize : (⟨l.toArray⟩ : ByteArray).size = l.length := by simp [ByteArray.size]
  have key : ∃ v' w', (Builtin.append_ #[T, U] o.type #[.slice (some ⟨(ρ k).1, 0, none⟩) xs.length (ρ k).2, sv l]).run P w = .ok v' w' ∧ w'.ownsRow 0 e 1 v' (xs.length + l.length) (vs ++ bvs l) ∧ w.grownBy w' (some (ρ k).1) ∧ (v'.ownBlock = some (ρ k).1 ∨ v'.ownBlock = some w.heap.size) := by
    obtain ⟨v', w', hrun, g2, g3, _⟩ := Go.Lib.run_append_own_string (P := P) w 0 T U o.type e i hT hu hi hz0 hz1 hz2 _ xs.length vs h1 ⟨l.toArray⟩ (by unfold maxLen; rw [hsize]; omega) (by rw [hsize]; omega) (Nat.zero_le _)
    rw [hsize, strCells_sv] at g2
    refine ⟨v', w', hrun, g2, g3, ?_⟩
    rcases h1.2 with ⟨e1, _⟩ | ⟨gg, cap, cur, e1, hbg, hg, hnc, hcm, hcs, htake⟩
    · cases e1
    injection e1 with e1 _ e3
    injection e1 with e1
    injection e1 with e1
    rw [e3] at hrun
    rw [e1] at hrun
    by_cases hroom : xs.length + (⟨l.toArray⟩ : ByteArray).size ≤ cap
    · have hr := Go.Lib.run_append_room_string (P := P) w T U o.type e i hT hu hi hz1 gg xs.length cap cur hg ⟨l.toArray⟩ hroom (by rw [hcs]; omega)
      have := hrun.symm.trans hr
      injection this with e4 e5
      left
      rw [e4, e1]; rfl
    have holds : ∀ j u, vs[j]? = some u → w.cell? ((⟨gg, 0, none⟩ : Addr).add j) = some u := (by have h1' := h1; rw [e1, e3] at h1'; exact h1'.cells (g := gg) rfl)
    have hr := Go.Lib.run_append_grow_string (P := P) w T U o.type e i (.int .u8 0) hT hu hi hz0 ⟨gg, 0, none⟩ xs.length cap vs (by rw [hz1]; exact h1.1) holds ⟨l.toArray⟩ (by omega) (by rw [hsize]; omega) (by rw [hz2, hsize]; exact growslice_fits (by omega) (by omega))
    have := hrun.symm.trans hr
    injection this with e4 e5
    right
    rw [e4]; rfl
  obtain ⟨v', w', hrun, g2, g3, g4⟩ := key
  have hex : ∃ g' cap, v' = .slice (some ⟨g', 0, none⟩) (xs ++ byA l).length cap ∧ (g' = (ρ k).1 ∨ g' = w.heap.size) := by
    rcases g2.2 with ⟨h', h0⟩ | ⟨g', cap, cur, h', _⟩
    · rw [h'] at g4
      rcases g4 with g4 | g4 <;> cases g4
    rw [h'] at g4
    refine ⟨g', cap, by rw [h', List.length_append, byA_len], ?_⟩
    rcases g4 with g4 | g4
    · injection g4 with g4; exact .inl g4
    injection g4 with g4; exact .inr g4
  obtain ⟨g', cap, rfl, hg'⟩ := hex
  rw [← byA_len l, ← List.length_append] at g2
  obtain ⟨ρ', hρ, hs', hmv⟩ := hst.regrow (row := some (ρ k).1) hk (fun b e => by injection e with e; exact ⟨by simp, e.symm⟩) g3 (hg'.imp (fun e => ⟨by simp, e⟩) id) (g2.lt g' rfl).2 e 1 cap (xs ++ byA l) ⟨vs ++ bvs l, g2, h2, fun v hv => (List.mem_append.1 hv).elim (h3 v) (fun hv => by unfold bvs at hv; obtain ⟨b, _, rfl⟩ := List.mem_map.1 hv; rfl), fun i cs hc => by
      rcases Nat.lt_or_ge i xs.length with hlt | hge
      · rw [List.getElem?_append_left hlt] at hc; exact h4 i cs hc
      rw [List.getElem?_append_right hge] at hc; exact byA_one cs (List.mem_of_getElem? hc), cat_rep h1.1 h4 h5 (fun i j cs v z hi hj hv => by
      unfold byA at hi
      rw [List.getElem?_map] at hi
      cases hb : l[i]? with
      | none => rw [hb] at hi; cases hi
      | some b =>
        rw [hb] at hi
        injection hi with hi
        subst hi
        have hj0 : j = 0 := by
          have := (List.getElem?_eq_some_iff.1 hj).1
          simpa using this
        subst hj0
        unfold bvs at hv
        rw [Nat.mul_one, Nat.add_zero, List.getElem?_map, hb] at hv
        simp at hv hj
        subst hv hj
        exact .sc _)⟩
  have hrun2 : (execOp a.eval o).run P w = .ok (.value (.slice (some ⟨g', 0, none⟩) (xs ++ byA l).length cap)) w' := by
    simp only [execOp, ho, resolve, invoke, builtin, Sem.run_bind, Sem.run_pure, Result.andThen_ok, List.map_toArray, List.map_cons, List.map_nil, hv, hxv, hrun]
  unfold Oper.wp
  rw [hrun2]
  have hk2 : (st.set k ⟨g + 1, .own e 1 (xs ++ byA l)⟩)[k]? = some ⟨g + 1, .own e 1 (xs ++ byA l)⟩ := by rw [List.getElem?_set_self (List.getElem?_eq_some_iff.1 hk).1]
  have hrep := Rep.ow (F := F) (ρ := ρ') (w := w') k (g + 1) e 1 (xs ++ byA l) hk2
  rw [hρ] at hrep
  exact hn _ w' ρ' _ _ hs' hmv hrep h
theorem Mv.thenM {F : Nat → Prop} {ρ ρ' ρ2 : Loc} {st st' st2 : List TK} {w w' w2 : World} (h : Mv F ρ st w ρ' st' w') (k : Mv F ρ' st' w' ρ2 st2 w2) : Mv F ρ st w ρ2 st2 w2 := ⟨fun b o hf ho => (h.free b o hf ho).elim fun a c => k.free b o a c, fun q tk hq => by
  obtain ⟨tk', h1, h2⟩ := h.tk q tk hq
  obtain ⟨tk2, k1, k2⟩ := k.tk q tk' h1
  exact ⟨tk2, k1, TkR.trans (b := tk') (m := ρ' q) h2 k2⟩⟩
theorem op_append0M {P : Program} {o : Oper} {t : List AV} {st : List TK} {x s : Operand} {K : AV → List TK → Prop} {T e sz by_ : Nat} {ys : List (List AV)} (k : Nat) {tk : TK} (ho : o.op = .call { callee := .builtin .append, args := #[s, x], argTypes := #[T, T] }) (hT : apI P T = some (e, sz, by_)) (hs : evV t s = some (.slice none 0 0)) (hk : st[k]? = some tk) (hx : Src t st x sz ys) (hsz : ys.length * by_ ≤ 140737488355328) (hml : ys.length ≤ 9223372036854775807)
    (h : K (.ow k (tk.g + 1)) (st.set k ⟨tk.g + 1, owM true e sz ys⟩)) : AOp P o t st K := by
  cases hys : ys with
  | cons y ys' => exact AOpB.op (op_append0 k ho hT (.inr hs) hk hx (by rw [hys]; simp) hsz hml (by rw [hys] at h ⊢; exact h))
  | nil =>
    subst hys
    intro F ρ w0 w a hst hm next Q hn; obtain ⟨hu, hpos, i, z, hi, hz0, hz1, hz2, hz⟩ := ap_parts hT; obtain ⟨A, c, news, he, hn1, hn2, hn3, hn4, hn5, hn6⟩ := hx F ρ w0 w a hst hm
    have hv : a.eval s = .slice none 0 0 := hm.val hs
    obtain ⟨w', hrun, hb⟩ : ∃ w', (Builtin.append_ #[T, T] o.type #[.slice none 0 0, .slice A 0 c]).run P w = .ok (.slice none 0 0) w' ∧ Below w.heap.size w w' := by
      rcases A with _ | ad
      · refine ⟨w, ?_, Below.refl _ _⟩; simp [Builtin.append_, run_underlying hu, sizeOf, typeInfo, hi, Builtin.lenOf, Builtin.firstCells]
      have hnn : news = [] := List.eq_nil_of_length_eq_zero (by simpa using hn1)
      subst hnn
      obtain ⟨v', w', hrun, g2, g3, g5, g4⟩ := run_append_own_at (P := P) w w.heap.size T o.type e i z sz by_ hu hi hz0 hz1 hz2 hz hpos _ 0 [] (World.ownsRow_nil w w.heap.size e sz) ad 0 c [] (by simp) (by simp) (by simp) (by unfold maxLen; omega) (by omega) (Nat.le_refl _)
      rw [g5.2 ⟨rfl, rfl⟩] at hrun
      exact ⟨w', hrun, below_of_grown g3⟩
    have hrun2 : (execOp a.eval o).run P w = .ok (.value (.slice none 0 0)) w' := by
      simp only [execOp, ho, resolve, invoke, builtin, Sem.run_bind, Sem.run_pure, Result.andThen_ok, List.map_toArray, List.map_cons, List.map_nil, hv, he, List.length_nil, hrun]
    unfold Oper.wp
    rw [hrun2]
    have hklt := (List.getElem?_eq_some_iff.1 hk).1
    have hst1 := hst.grow hb
    have hmv : Mv F ρ st w' ρ (st.set k ⟨tk.g + 1, .nown e sz⟩) w' := Mv.upd hk (fun _ _ => rfl) (fun b o hf ho => ⟨fun h => h, ho⟩) (.inr (.inl (Nat.lt_succ_self _)))
    have hs' : St F ρ (st.set k ⟨tk.g + 1, .nown e sz⟩) w0 w' := hst1.upd hk (fun _ _ => rfl) hst1.below (Nat.le_refl _) hmv (fun _ _ _ _ _ _ => rfl) (fun b hf => hf.elim) (fun j q b hj hq hf hf' => hf') (fun ty cs e => by cases e) (fun el' sz' xs' e => by cases e) (fun p e => by cases e)
    exact hn _ w' ρ _ (.ow k (tk.g + 1)) hs' ((Mv.below hb).thenM hmv) (.ow0 k _ e sz (by rw [List.getElem?_set_self hklt])) h
end Go.Proofs.Ytlapcfnmmpbeeaa
