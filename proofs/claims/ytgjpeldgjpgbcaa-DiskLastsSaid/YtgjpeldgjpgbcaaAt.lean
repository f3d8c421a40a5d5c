/- The operations on abstract states, on: append. No conditions. -/
import Derived.Test.YtgjpeldgjpgbcaaAs
import Derived.Maps.AppendAt
namespace Go.Proofs.Ytgjpeldgjpgbcaa
set_option linter.unusedSimpArgs false
set_option linter.unusedVariables false
open Go.RowKit

def apI (P : Program) (T : TypeId) : Option (TypeId × Nat × Nat) := match P.underlying T with
  | some (.slice e) => (P.info? e).bind fun i => i.zero.bind fun z => if z.cells.size = i.size ∧ 0 < i.size then some (e, i.size, i.bytes) else none
  | _ => none
theorem ap_parts {P : Program} {T e sz by_ : Nat} (h : apI P T = some (e, sz, by_)) : P.underlying T = some (.slice e) ∧ 0 < sz ∧ ∃ i z, P.info? e = some i ∧ i.zero = some z ∧ i.size = sz ∧ i.bytes = by_ ∧ z.cells.size = sz := by
  unfold apI at h
  split at h
  · rename_i e' hu
    cases hi : P.info? e' with
    | none => rw [hi] at h; cases h
    | some i =>
      rw [hi] at h
      simp only [Option.bind_some] at h
      cases hz : i.zero with
      | none => rw [hz] at h; cases h
      | some z =>
        rw [hz] at h
        simp only [Option.bind_some] at h
        split at h
        · rename_i hc
          injection h with h
          simp at h
          obtain ⟨rfl, rfl, rfl⟩ := h
          exact ⟨hu, hc.2, i, z, hi, hz, rfl, rfl, hc.1⟩
        · cases h
  · cases h

section
variable {P : Program} {o : Oper} {t : List AV} {st : List TK} {x y s : Operand} {K : AV → List TK → Prop}
/-- What is appended: the elements ys. -/
def Src (t : List AV) (st : List TK) (x : Operand) (sz : Nat) (ys : List (List AV)) : Prop := ∀ F ρ w0 w a, St F ρ st w0 w → Fm F ρ st w a t → ∃ (A : Option Addr) (c : Nat) (news : List Value), a.eval x = .slice A ys.length c ∧ news.length = ys.length * sz ∧ (∀ u ∈ news, u.oneCell' = true) ∧
  (∀ (i j : Nat) (cs : List AV) v z, ys[i]? = some cs → cs[j]? = some z → news[i * sz + j]? = some v → RepS (Free F ρ st) w v z) ∧ (∀ (i : Nat) (cs : List AV), ys[i]? = some cs → cs.length = sz) ∧ (A = none → ys = []) ∧ ∀ (j : Nat) (v : Value), news[j]? = some v → ∃ b off, A = some ⟨b, off, none⟩ ∧ w.cell? ⟨b, off + j, none⟩ = some v
theorem src_sl {sz : Nat} {ys : List (List AV)} (hx : evA t x = .sl ys) (hl : ∀ cs ∈ ys, cs.length = sz) : Src t st x sz ys := fun F ρ w0 w a hs hm => by
  have h := hm.ev x
  rw [hx] at h
  have h := h.sl_s
  generalize hq : a.eval x = q at *
  cases h with
  | sl0 A c hc => exact ⟨A, c, [], rfl, by simp, by simp, fun i j cs v z h => by simp at h, fun i cs h => by simp at h, fun _ => rfl, fun j v h => by simp at h⟩
  | sl1 b off n c sz' V _ hn h0 hnc hc hsz hf hl' hv h1 hr =>
    have hs' : sz' = sz := by
      have h3 : ys[0]? = some (ys[0]'(by omega)) := List.getElem?_eq_getElem (by omega)
      rw [← hl' 0 _ h3, hl _ (List.getElem_mem _)]
    subst hs'
    refine ⟨some ⟨b, off, none⟩, c, (List.range (n * sz')).map (fun q => V (q / sz') (q % sz')), by rw [hn], by simp [hn], ?_, ?_, hl', (fun e => by cases e), ?_⟩
    · intro u hu
      simp at hu
      obtain ⟨q, _, rfl⟩ := hu
      exact h1 _ _
    · intro i j cs v z hi hj hv'
      have hj' : j < sz' := by rw [← hl' i cs hi]; exact (List.getElem?_eq_some_iff.1 hj).1
      simp only [List.getElem?_map] at hv'
      cases hq2 : (List.range (n * sz'))[i * sz' + j]? with
      | none => rw [hq2] at hv'; cases hv'
      | some q =>
        rw [hq2] at hv'
        have hqq : q = i * sz' + j := by
          have := (List.getElem?_eq_some_iff.1 hq2).2
          simpa using this.symm
        simp at hv'
        subst hv' hqq
        have e1 : (i * sz' + j) / sz' = i := by rw [Nat.mul_comm, Nat.mul_add_div hsz, Nat.div_eq_of_lt hj', Nat.add_zero]
        have e2 : (i * sz' + j) % sz' = j := by rw [Nat.mul_comm, Nat.mul_add_mod, Nat.mod_eq_of_lt hj']
        rw [e1, e2]
        exact hr i j cs z hi hj
    · intro j v hj
      simp only [List.getElem?_map] at hj
      cases hq2 : (List.range (n * sz'))[j]? with
      | none => rw [hq2] at hj; cases hj
      | some q =>
        rw [hq2] at hj
        have hjlt : j < n * sz' := by have := (List.getElem?_eq_some_iff.1 hq2).1; simpa using this
        have hqq : q = j := by
          have := (List.getElem?_eq_some_iff.1 hq2).2
          simpa using this.symm
        simp at hj
        subst hj hqq
        refine ⟨b, off, rfl, ?_⟩
        have := hv (q / sz') (q % sz') (Nat.div_lt_of_lt_mul (by rw [Nat.mul_comm]; exact hjlt)) (Nat.mod_lt _ hsz)
        rw [← this]
        congr 2
        rw [Nat.mul_comm, Nat.div_add_mod]
theorem src_ow {k g sz el : Nat} {ys : List (List AV)} (hx : evA t x = .ow k g) (hk : st[k]? = some ⟨g, .own el sz ys⟩) : Src t st x sz ys := fun F ρ w0 w a hs hm => by
  have h := hm.ev x
  rw [hx] at h
  obtain ⟨vs, h1, h2, h3, h4, h5⟩ := hs.own k g el sz ys hk
  refine ⟨_, _, vs, h.ow_inv hk, h1.1, h3, h5, h4, (fun e => by cases e), fun j v hj => ⟨(ρ k).1, 0, rfl, ?_⟩⟩
  have h6 := h1.cells (g := (ρ k).1) rfl j v hj
  rw [Nat.zero_add, ← h6]
  congr 1
  unfold Addr.add
  split <;> simp_all
theorem src_nil {sz : Nat} (hx : evV t x = some (.slice none 0 0)) : Src t st x sz [] := fun F ρ w0 w a hs hm =>
  ⟨none, 0, [], hm.val hx, by simp, by simp, fun i j cs v z h => by simp at h, fun i cs h => by simp at h, fun _ => rfl, fun j v h => by simp at h⟩

/-- An own slice has become another one, in the same block or in a new one. -/
theorem St.regrow {F : Nat → Prop} {ρ : Loc} {w0 : Bs} {w w' : World} {k g' : Nat} {tk : TK} {row : Option Nat} (hs : St F ρ st w0 w) (hk : st[k]? = some tk) (hrow : ∀ b, row = some b → tk.c.blk ∧ b = (ρ k).1) (hg : w.grownBy w' row) (hgp : (tk.c.blk ∧ g' = (ρ k).1) ∨ g' = w.heap.size) (hlt : g' < w'.heap.size) (el sz cap : Nat) (xs : List (List AV))
    (hown : ∃ us : List Value, w'.ownsRow 0 el sz (.slice (some ⟨g', 0, none⟩) xs.length cap) xs.length us ∧ 0 < sz ∧ (∀ v ∈ us, v.oneCell' = true) ∧ (∀ (i : Nat) (cs : List AV), xs[i]? = some cs → cs.length = sz) ∧
      ∀ (i j : Nat) (cs : List AV) v x, xs[i]? = some cs → cs[j]? = some x → us[i * sz + j]? = some v → RepS (Free F ρ st) w v x) :
    ∃ ρ' : Loc, ρ' k = (g', cap) ∧ St F ρ' (st.set k ⟨tk.g + 1, .own el sz xs⟩) w0 w' ∧ Mv F ρ st w ρ' (st.set k ⟨tk.g + 1, .own el sz xs⟩) w' := by
  have hklt := (List.getElem?_eq_some_iff.1 hk).1
  let ρ' : Loc := fun j => if j = k then (g', cap) else ρ j
  have hρk : ρ' k = (g', cap) := by simp [ρ']
  have hρj : ∀ j, j ≠ k → ρ' j = ρ j := fun j hj => by simp [ρ', hj]
  have hge : (w0.w.heap.size ≤ g' ∨ w0.M g') ∧ F g' := by
    rcases hgp with ⟨hb, rfl⟩ | rfl
    · exact (hs.geB k tk hk hb).1
    · exact ⟨.inl hs.below.size, hs.fresh _ (Nat.le_refl _)⟩
  have hnew : ∀ j q b, j ≠ k → st[j]? = some q → foot ρ j q.c b → g' ≠ b := fun j q b hj hq hf e => by
    rcases hgp with ⟨hb, rfl⟩ | rfl
    · exact hj (hs.inj j q k tk b hq hf hk (e ▸ foot_self hb))
    · have := (hs.ge j q b hq hf).2; omega
  have hmv : Mv F ρ st w ρ' (st.set k ⟨tk.g + 1, .own el sz xs⟩) w' := Mv.upd hk hρj (fun b o hf ho => ⟨fun h => by
    have h' : (ρ' k).1 = b := h
    rw [hρk] at h'
    simp only at h'
    rcases hgp with ⟨hb, rfl⟩ | rfl
    · exact hf.ne k tk hk hb h'
    · have := (Array.getElem?_eq_some_iff.1 ho).1; omega, (hg.block b (Array.getElem?_eq_some_iff.1 ho).1 (fun e => by
    obtain ⟨h1, h2⟩ := hrow b e.symm
    exact hf.ne k tk hk h1 h2.symm)).trans ho⟩) (.inr (.inl (Nat.lt_succ_self _)))
  have hbel : Bel w0 w' := hs.below.grown hg fun b e => by
    obtain ⟨h1, h2⟩ := hrow b e
    rw [h2]
    exact (hs.geB k tk hk h1).1.1
  refine ⟨ρ', hρk, hs.upd hk hρj hbel hg.size hmv (fun j q b hj hq hf => hg.block b (hs.ge j q b hq hf).2 (fun e => ?_)) (fun b hf => ?_) (fun j q b hj hq hf hf' => ?_) (fun ty cs e => by cases e) (fun el' sz' xs' e => ?_) (fun p e => by cases e), hmv⟩
  · obtain ⟨h1, h2⟩ := hrow b e.symm
    exact hj (hs.inj j q k tk b hq hf hk (h2 ▸ foot_self h1))
  · have h' : (ρ' k).1 = b := hf
    rw [hρk] at h'
    simp only at h'
    subst h'
    exact ⟨hge, hlt⟩
  · have h' : (ρ' k).1 = b := hf'
    rw [hρk] at h'
    exact hnew j q b hj hq hf h'
  · injection e with e1 e2 e3
    subst e1 e2 e3
    obtain ⟨us, h1, h2, h3, h4, h5⟩ := hown
    rw [hρk]
    exact ⟨us, h1, h2, h3, h4, fun i j cs v x a b c => (h5 i j cs v x a b c).mv hmv.free⟩

/-- Old and new elements, one behind the other. -/
theorem cat_rep {R : Value → AV → Prop} {sz : Nat} {xs ys : List (List AV)} {vs news : List Value} (hv : vs.length = xs.length * sz) (hx : ∀ (i : Nat) (cs : List AV), xs[i]? = some cs → cs.length = sz) (h1 : ∀ (i j : Nat) (cs : List AV) v z, xs[i]? = some cs → cs[j]? = some z → vs[i * sz + j]? = some v → R v z)
    (h2 : ∀ (i j : Nat) (cs : List AV) v z, ys[i]? = some cs → cs[j]? = some z → news[i * sz + j]? = some v → R v z) : ∀ (i j : Nat) (cs : List AV) v z, (xs ++ ys)[i]? = some cs → cs[j]? = some z → (vs ++ news)[i * sz + j]? = some v → R v z := by
  intro i j cs v z hi hj hvv
  rcases Nat.lt_or_ge i xs.length with h | h
  · rw [List.getElem?_append_left h] at hi
    have hj' : j < sz := by rw [← hx i cs hi]; exact (List.getElem?_eq_some_iff.1 hj).1
    have hlt : i * sz + j < vs.length := by
      rw [hv]
      calc i * sz + j < i * sz + sz := by omega
        _ = (i + 1) * sz := by rw [Nat.add_mul, Nat.one_mul]
        _ ≤ xs.length * sz := Nat.mul_le_mul_right _ h
    rw [List.getElem?_append_left hlt] at hvv
    exact h1 i j cs v z hi hj hvv
  · rw [List.getElem?_append_right h] at hi
    have hle : xs.length * sz ≤ i * sz := Nat.mul_le_mul_right _ h
    rw [List.getElem?_append_right (by rw [hv]; omega), hv] at hvv
    have e : i * sz + j - xs.length * sz = (i - xs.length) * sz + j := by rw [Nat.sub_mul]; omega
    rw [e] at hvv
    exact h2 _ j cs v z hi hj hvv

/-- append onto an own slice. -/
theorem op_append {T e k g sz by_ : Nat} {xs ys : List (List AV)} (ho : o.op = .call { callee := .builtin .append, args := #[s, x], argTypes := #[T, T] }) (hT : apI P T = some (e, sz, by_)) (hs : evA t s = .ow k g) (hk : st[k]? = some ⟨g, .own e sz xs⟩) (hx : Src t st x sz ys) (hsz : (xs.length + ys.length) * by_ ≤ 140737488355328) (hml : xs.length + ys.length ≤ 9223372036854775807)
    (h : K (.ow k (g + 1)) (st.set k ⟨g + 1, .own e sz (xs ++ ys)⟩)) : AOp P o t st K := fun F ρ w0 w a hst hm next Q hn => by
  obtain ⟨hu, hpos, i, z, hi, hz0, hz1, hz2, hz⟩ := ap_parts hT
  obtain ⟨A, c, news, he, hn1, hn2, hn3, hn4, hn5, hn6⟩ := hx F ρ w0 w a hst hm
  have hv := hm.ev s
  rw [hs] at hv
  have hv := hv.ow_inv hk
  obtain ⟨vs, h1, h2, h3, h4, h5⟩ := hst.own k g e sz xs hk
  have hge := hst.geB k _ hk (by simp)
  have key : ∃ v' w', (Builtin.append_ #[T, T] o.type #[.slice (some ⟨(ρ k).1, 0, none⟩) xs.length (ρ k).2, .slice A ys.length c]).run P w = .ok v' w' ∧ w'.ownsRow 0 e sz v' (xs.length + ys.length) (vs ++ news) ∧ w.grownBy w' (some (ρ k).1) ∧ (v'.ownBlock = some (ρ k).1 ∨ v'.ownBlock = some w.heap.size) := by
    rcases A with _ | ad
    · obtain rfl := hn5 rfl
      have hnn : news = [] := List.eq_nil_of_length_eq_zero (by simpa using hn1)
      subst hnn
      refine ⟨_, w, ?_, by simpa using h1, World.grownBy.refl w _, .inl rfl⟩
      have hnc := (own_form' h1).1
      simp [Builtin.append_, run_underlying hu, sizeOf, typeInfo, hi, Builtin.lenOf, Builtin.firstCells, hnc, storeCells]
    · have hcells : ∀ j u, news[j]? = some u → w.cell? (ad.add j) = some u := fun j u hj => by
        obtain ⟨b, off, h', hc⟩ := hn6 j u hj
        injection h' with h'
        subst h'
        rw [Addr.add_mid, hc]
      obtain ⟨v', w', hrun, g2, g3, _, g4⟩ := run_append_own_at (P := P) w 0 T o.type e i z sz by_ hu hi hz0 hz1 hz2 hz hpos _ xs.length vs h1 ad ys.length c news hn1 hcells hn2 (by unfold maxLen; exact hml) hsz (Nat.zero_le _)
      exact ⟨v', w', hrun, g2, g3, g4⟩
  obtain ⟨v', w', hrun, g2, g3, g4⟩ := key
  have hex : ∃ g' cap, v' = .slice (some ⟨g', 0, none⟩) (xs ++ ys).length cap ∧ (g' = (ρ k).1 ∨ g' = w.heap.size) := by
    rcases g2.2 with ⟨h', h0⟩ | ⟨g', cap, cur, h', _⟩
    · rw [h'] at g4
      rcases g4 with g4 | g4 <;> cases g4
    · rw [h'] at g4
      refine ⟨g', cap, by rw [h', List.length_append], ?_⟩
      rcases g4 with g4 | g4
      · injection g4 with g4; exact .inl g4
      · injection g4 with g4; exact .inr g4
  obtain ⟨g', cap, rfl, hg'⟩ := hex
  rw [← List.length_append] at g2
  obtain ⟨ρ', hρ, hs', hmv⟩ := hst.regrow (row := some (ρ k).1) hk (fun b e => by injection e with e; exact ⟨by simp, e.symm⟩) g3 (hg'.imp (fun e => ⟨by simp, e⟩) id) (g2.lt g' rfl).2 e sz cap (xs ++ ys) ⟨vs ++ news, g2, h2, fun v hv => (List.mem_append.1 hv).elim (h3 v) (hn2 v), fun i cs hc => by
      rcases Nat.lt_or_ge i xs.length with hlt | hge
      · rw [List.getElem?_append_left hlt] at hc; exact h4 i cs hc
      · rw [List.getElem?_append_right hge] at hc; exact hn4 _ cs hc, cat_rep h1.1 h4 h5 hn3⟩
  have hrun2 : (execOp a.eval o).run P w = .ok (.value (.slice (some ⟨g', 0, none⟩) (xs ++ ys).length cap)) w' := by
    simp only [execOp, ho, resolve, invoke, builtin, Sem.run_bind, Sem.run_pure, Result.andThen_ok, List.map_toArray, List.map_cons, List.map_nil, hv, he, hrun]
  unfold Oper.wp
  rw [hrun2]
  have hk2 : (st.set k ⟨g + 1, .own e sz (xs ++ ys)⟩)[k]? = some ⟨g + 1, .own e sz (xs ++ ys)⟩ := by rw [List.getElem?_set_self (List.getElem?_eq_some_iff.1 hk).1]
  have hrep := Rep.ow (F := F) (ρ := ρ') (w := w') k (g + 1) e sz (xs ++ ys) hk2
  rw [hρ] at hrep
  exact hn _ w' ρ' _ _ hs' hmv hrep h

/-- append of something onto a slice that is nil; the ticket k is free for it, or it is the slice's own. -/
theorem op_append0 {T e sz by_ : Nat} {ys : List (List AV)} (k : Nat) {tk : TK} (ho : o.op = .call { callee := .builtin .append, args := #[s, x], argTypes := #[T, T] }) (hT : apI P T = some (e, sz, by_)) (hs : (∃ el sz', evA t s = .ow k tk.g ∧ tk.c = .nown el sz') ∨ evV t s = some (.slice none 0 0)) (hk : st[k]? = some tk) (hx : Src t st x sz ys) (hne : ys ≠ []) (hsz : ys.length * by_ ≤ 140737488355328) (hml : ys.length ≤ 9223372036854775807)
    (h : K (.ow k (tk.g + 1)) (st.set k ⟨tk.g + 1, .own e sz ys⟩)) : AOpB P o t st K := fun F ρ w0 w a hst hm next Q hn => by
  obtain ⟨hu, hpos, i, z, hi, hz0, hz1, hz2, hz⟩ := ap_parts hT
  obtain ⟨A, c, news, he, hn1, hn2, hn3, hn4, hn5, hn6⟩ := hx F ρ w0 w a hst hm
  have hv : a.eval s = .slice none 0 0 := by
    rcases hs with ⟨el, sz', h1, h2⟩ | h1
    · have hv := hm.ev s
      rw [h1] at hv
      exact hv.ow0_inv (by rw [hk, ← h2])
    · exact hm.val h1
  rcases A with _ | ad
  · exact absurd (hn5 rfl) hne
  have hcells : ∀ j u, news[j]? = some u → w.cell? (ad.add j) = some u := fun j u hj => by
    obtain ⟨b, off, h', hc⟩ := hn6 j u hj
    injection h' with h'
    subst h'
    rw [Addr.add_mid, hc]
  obtain ⟨v', w', hrun, g2, g3, _, g4⟩ := run_append_own_at (P := P) w 0 T o.type e i z sz by_ hu hi hz0 hz1 hz2 hz hpos _ 0 [] (World.ownsRow_nil w 0 e sz) ad ys.length c news hn1 hcells hn2 (by rw [Nat.zero_add]; unfold maxLen; exact hml) (by rw [Nat.zero_add]; exact hsz) (Nat.zero_le _)
  rw [Nat.zero_add, List.nil_append] at g2
  have hg0 : (Value.slice none 0 0).ownBlock = none := rfl
  rw [hg0] at g3 g4
  have hex : ∃ cap, v' = .slice (some ⟨w.heap.size, 0, none⟩) ys.length cap := by
    rcases g2.2 with ⟨h', h0⟩ | ⟨g', cap, cur, h', _⟩
    · exact absurd (List.eq_nil_of_length_eq_zero h0) hne
    · rw [h'] at g4
      rcases g4 with g4 | g4
      · cases g4
      · injection g4 with g4
        simp at g4
        exact ⟨cap, by rw [h', g4]⟩
  obtain ⟨cap, rfl⟩ := hex
  obtain ⟨ρ', hρ, hs', hmv⟩ := hst.regrow (row := none) hk (fun b e => by cases e) g3 (.inr rfl) (g2.lt _ rfl).2 e sz cap ys ⟨news, g2, hpos, hn2, hn4, hn3⟩
  have hrun2 : (execOp a.eval o).run P w = .ok (.value (.slice (some ⟨w.heap.size, 0, none⟩) ys.length cap)) w' := by
    simp only [execOp, ho, resolve, invoke, builtin, Sem.run_bind, Sem.run_pure, Result.andThen_ok, List.map_toArray, List.map_cons, List.map_nil, hv, he, hrun]
  unfold Oper.wp
  rw [hrun2]
  have hk2 : (st.set k ⟨tk.g + 1, .own e sz ys⟩)[k]? = some ⟨tk.g + 1, .own e sz ys⟩ := by rw [List.getElem?_set_self (List.getElem?_eq_some_iff.1 hk).1]
  have hrep := Rep.ow (F := F) (ρ := ρ') (w := w') k (tk.g + 1) e sz ys hk2
  rw [hρ] at hrep
  exact hn _ w' ρ' _ _ hs' hmv hrep (below_of_grown g3) h
/-- append onto nil, the answer settled. -/
theorem op_append_s {T e sz by_ : Nat} {ys : List (List AV)} (ho : o.op = .call { callee := .builtin .append, args := #[s, x], argTypes := #[T, T] }) (hT : apI P T = some (e, sz, by_)) (hs : evV t s = some (.slice none 0 0)) (hx : Src t st x sz ys) (hsz : ys.length * by_ ≤ 140737488355328) (hml : ys.length ≤ 9223372036854775807)
    (h : K (.sl ys) st) : AOpB P o t st K := fun F ρ w0 w a hst hm next Q hn => by
  obtain ⟨hu, hpos, i, z, hi, hz0, hz1, hz2, hz⟩ := ap_parts hT
  obtain ⟨A, c, news, he, hn1, hn2, hn3, hn4, hn5, hn6⟩ := hx F ρ w0 w a hst hm
  have hv : a.eval s = .slice none 0 0 := hm.val hs
  have fin : ∀ v' w', (Builtin.append_ #[T, T] o.type #[.slice none 0 0, .slice A ys.length c]).run P w = .ok v' w' → Below w.heap.size w w' → RepS (Free F ρ st) w' v' (.sl ys) → o.wp P a w next Q := fun v' w' hrun hb hrep => by
    have hrun2 : (execOp a.eval o).run P w = .ok (.value v') w' := by
      simp only [execOp, ho, resolve, invoke, builtin, Sem.run_bind, Sem.run_pure, Result.andThen_ok, List.map_toArray, List.map_cons, List.map_nil, hv, he, hrun]
    unfold Oper.wp
    rw [hrun2]
    exact hn _ w' ρ st _ (hst.grow hb) (Mv.below hb) (.s hrep) hb h
  rcases A with _ | ad
  · obtain rfl := hn5 rfl
    refine fin (.slice none 0 0) w ?_ (Below.refl _ _) (.sl0 _ _ (Nat.zero_le _))
    simp [Builtin.append_, run_underlying hu, sizeOf, typeInfo, hi, Builtin.lenOf, Builtin.firstCells]
  have hcells : ∀ j u, news[j]? = some u → w.cell? (ad.add j) = some u := fun j u hj => by
    obtain ⟨b, off, h', hc⟩ := hn6 j u hj
    injection h' with h'
    subst h'
    rw [Addr.add_mid, hc]
  obtain ⟨v', w', hrun, g2, g3, _, g4⟩ := run_append_own_at (P := P) w w.heap.size T o.type e i z sz by_ hu hi hz0 hz1 hz2 hz hpos _ 0 [] (World.ownsRow_nil w w.heap.size e sz) ad ys.length c news hn1 hcells hn2 (by rw [Nat.zero_add]; unfold maxLen; exact hml) (by rw [Nat.zero_add]; exact hsz) (Nat.le_refl _)
  rw [Nat.zero_add, List.nil_append] at g2
  have hg0 : (Value.slice none 0 0).ownBlock = none := rfl
  rw [hg0] at g3 g4
  have hb := below_of_grown g3
  refine fin v' w' hrun hb ?_
  rcases g2.2 with ⟨h', h0⟩ | ⟨g', cap, cur, h', _⟩
  · have := List.eq_nil_of_length_eq_zero h0
    subst this
    rw [h']
    exact .sl0 _ _ (Nat.zero_le _)
  · subst h'
    have hge := (g2.lt g' rfl).1
    refine RepO.sl (base := w.heap.size) (el := e) ⟨news, g2, hpos, hn2, hn4, fun i j cs v z a b c => ?_⟩ (hst.free_new hge)
    exact (hn3 i j cs v z a b c).mv fun b ob hf ho => ⟨⟨hf, by have := (Array.getElem?_eq_some_iff.1 ho).1; omega⟩, (hb.block b (Array.getElem?_eq_some_iff.1 ho).1).trans ho⟩
end
end Go.Proofs.Ytgjpeldgjpgbcaa
