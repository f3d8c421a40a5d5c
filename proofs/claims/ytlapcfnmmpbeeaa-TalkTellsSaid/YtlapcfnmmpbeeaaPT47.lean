/- A part of a proof. -/
import Derived.Test.YtlapcfnmmpbeeaaPT09
set_option linter.unusedSimpArgs false
set_option linter.unusedVariables false
namespace Go.Proofs.Ytlapcfnmmpbeeaa
set_option maxRecDepth 100000
open Go.RowKit
theorem resO_setN {st : List TK} {n k g el sz : Nat} {xs : List (List AV)} (hn : n ≤ k) (hk : st[k]? = some ⟨g, owN el sz xs⟩) : resO1 n st (.ow k g) = some (.sl xs) := by
  cases xs <;> simp [resO1, nz, resO0, Nat.not_lt.2 hn, set0, hk, owN]
abbrev RM := Nat → Option (TypeId × Array Value)
def RM.set (M : RM) (b : Nat) (r : TypeId × Array Value) : RM := fun j => if j = b then some r else M j
def RM.nil : RM := fun _ => none
theorem RM.set_self (M : RM) (b : Nat) (r : TypeId × Array Value) : M.set b r b = some r := if_pos rfl
theorem RM.set_ne (M : RM) {b j : Nat} (r : TypeId × Array Value) (h : j ≠ b) : M.set b r j = M j := if_neg h
def RawP (M : RM) : OP where
  rep _ w _ ft := (∀ b, ft b ↔ (M b).isSome = true) ∧ ∀ b ty vs, M b = some (ty, vs) → w.heap[b]? = some (.cells vs ty (0, 0))
  stab h _ _ _ hk := ⟨h.1, fun b ty vs hb => (hk b ((h.1 b).2 (by rw [hb]; rfl))).trans (h.2 b ty vs hb)⟩
section
variable {P : Program} {o : Oper} {ops : Array Oper} {K : List AV → List TK → Prop} {KK : AV → List TK → Prop} {l : List Oper} {t : List AV} {st : List TK} {x y : Operand} {G q b off : Nat} {M : RM} {T : TypeId} {vs : Array Value} {u : Value} {F : Nat → Prop} {ρ : Loc} {w0 : Bs} {w : World}
theorem rd_load_raw {ty : TypeId} (ho : o.op = .load ty x) (hT : agN P ty = some none) (hx : evV t x = some (.pointer (some ⟨b, off, none⟩))) (hq : st[q]? = some ⟨G, .obj (RawP M)⟩) (hM : M b = some (T, vs)) (hu : vs[off]? = some u) : ARd P o t st (.sc u) := fun F ρ w0 w a hs hm => by
  have hv := hm.val hx
  have hp := (hs.obj q G _ hq).2 b T vs hM
  refine ⟨u, .sc u, fun w' hb => ?_⟩
  have hcell : w'.cell? ⟨b, off, none⟩ = some u := by
    rw [hb.cell (p := ⟨b, off, none⟩) (Array.getElem?_eq_some_iff.1 hp).1, cell_of_row _ _ _ _ _ _ hp, hu]
  simp only [execOp, ho, hv, Sem.run_bind, run_load1 hT hcell, Result.andThen_ok, Sem.run_pure]
theorem rd_len_sc {TT e : TypeId} {n m c : Nat} {A : Option Addr} (ho : o.op = .call { callee := .builtin .len, args := #[x], argTypes := #[TT] }) (hT : elT P TT = some (e, n)) (hx : evV t x = some (.slice A m c)) : ARd P o t st (.sc (.int .i64 m)) :=
  rd_len_at ho hT fun F ρ w0 w a hs hm => ⟨A, c, hm.val hx⟩
theorem rd_iaddr_sc {TT e n m c sz : Nat} {ik : IntKind} {I : Int} (ho : o.op = .indexAddr TT x y) (hT : elT P TT = some (e, sz)) (hx : evV t x = some (.slice (some ⟨b, off, none⟩) m c)) (hy : evV t y = some (.int ik I)) (hI : I = (n : Int)) (hn : n < m) : ARd P o t st (.sc (.pointer (some ⟨b, off + n * sz, none⟩))) := fun F ρ w0 w a hs hm => by
  subst hI
  have hq := hm.val hx
  obtain ⟨hu, inf, hi1, hi2⟩ := el_under hT
  refine ⟨.pointer (some ⟨b, off + n * sz, none⟩), .sc _, fun w' _ => ?_⟩
  have hnm : (n : Int) < m := by omega
  simp only [execOp, ho, Instr.indexAt, hq, hm.val hy, Sem.run_bind, asIntOf, Sem.run_pure, Result.andThen_ok, run_underlying hu]
  simp [hnm, sizeOf, typeInfo, hi1, hi2, Addr.add_mid]
theorem foot_raw (hs : St F ρ st w0 w) (hq : st[q]? = some ⟨G, .obj (RawP M)⟩) (b : Nat) : foot ρ q (.obj (RawP M)) b ↔ (M b).isSome = true := (hs.obj q G _ hq).1 b
theorem RM.set_some (M : RM) (b j : Nat) (r : TypeId × Array Value) (h : (M b).isSome = true) : (M.set b r j).isSome = (M j).isSome := by
  by_cases e : j = b
  · subst e; rw [RM.set_self, h]; rfl
  rw [RM.set_ne M r e]
theorem op_store_raw {ty : TypeId} (ho : o.op = .store ty x y) (hx : evV t x = some (.pointer (some ⟨b, off, none⟩))) (hq : st[q]? = some ⟨G, .obj (RawP M)⟩) (hM : M b = some (T, vs)) (hy : evV t y = some u) (hc : u.cells = #[u]) (h1 : u.oneCell' = true) (hT : szT P ty = some 1) (hlt : off < vs.size)
    (h : KK (.sc undef) (st.set q ⟨G, .obj (RawP (M.set b (T, vs.setIfInBounds off u)))⟩)) : AOp P o t st KK := fun F ρ w0 w a hs hm next Q hn => by
  have hv := hm.val hx
  have hu := hm.val hy
  have hp := (hs.obj q G _ hq).2 b T vs hM
  have hft : foot ρ q (.obj (RawP M)) b := (foot_raw hs hq b).2 (by rw [hM]; rfl)
  have hqlt := (List.getElem?_eq_some_iff.1 hq).1
  have hfq : ∀ b', foot ρ q (.obj (RawP (M.set b (T, vs.setIfInBounds off u)))) b' ↔ foot ρ q (.obj (RawP M)) b' := fun b' => Iff.rfl
  have hmv : Mv F ρ st w ρ (st.set q ⟨G, .obj (RawP (M.set b (T, vs.setIfInBounds off u)))⟩) (w.setCells b off [u]) := Mv.upd hq (fun _ _ => rfl) (fun b' ob hf ho' => ⟨fun h' => hf.2 q _ hq h', (heap_setCells_other (fun e => hf.2 q _ hq (by rw [e]; exact hft)) [u] off w).trans ho'⟩) (.inr (.inr (.inr ⟨rfl, rfl, rfl, rfl⟩)))
  have hg := grown_setCells b [u] w off
  have hs' : St F ρ (st.set q ⟨G, .obj (RawP (M.set b (T, vs.setIfInBounds off u)))⟩) w0 (w.setCells b off [u]) := by
    refine hs.upd hq (fun _ _ => rfl) (hs.below.grown hg (fun b' e => by injection e with e; subst e; exact (hs.ge q _ b hq hft).1.1)) hg.size hmv (fun j tq b' hj hjq hf => ?_) (fun b' hf => ?_) (fun j tq b' hj hjq hf hf' => ?_) (fun ty cs e => by cases e) (fun el sz xs e => by cases e) (fun p e => ?_)
    · exact heap_setCells_other (fun e => hj (hs.inj j tq q _ b' hjq hf hq (by rw [e]; exact hft))) [u] off w
    · have h2 := hs.ge q _ b' hq hf
      exact ⟨h2.1, Nat.lt_of_lt_of_le h2.2 hg.size⟩
    · exact hj (hs.inj j tq q _ b' hjq hf hq hf')
    injection e with e
    subst e
    refine ⟨fun b' => ?_, fun b' ty' vs' hb' => ?_⟩
    · rw [RM.set_some M b b' _ (by rw [hM]; rfl)]
      exact (hs.obj q G _ hq).1 b'
    by_cases e : b' = b
    · subst e
      rw [RM.set_self] at hb'
      injection hb' with hb'
      injection hb' with e1 e2
      subst e1 e2
      exact heap_setCells_same [u] off w vs hp
    rw [RM.set_ne M _ e] at hb'
    exact (heap_setCells_other e [u] off w).trans ((hs.obj q G _ hq).2 b' ty' vs' hb')
  have hth : w.there b off (a.eval y).cells.size := fun j hj => by
    rw [hu, hc] at hj
    have hj0 : j = 0 := by simp at hj; omega
    subst hj0
    refine ⟨?_, ?_⟩
    · rw [cell_of_row _ _ _ _ _ _ hp, Array.getElem?_eq_getElem (by omega)]; rfl
    simp [World.frozen?, hp]
  have hst : (storeVar ty ⟨b, off, none⟩ (a.eval y)).run P w = .ok () (w.setCells b off [u]) := by
    have h0 : (storeVar ty ⟨b, off, none⟩ (a.eval y)).run P w = .ok () (w.setCells b off (a.eval y).cells.toList) := run_storeVar_mid w b off ty (a.eval y).cells hth (by unfold szT at hT; rw [hT, hu, hc]; rfl) (by rw [hu, hc]; simp [h1])
    rw [hu, hc] at h0
    rw [hu]
    exact h0
  have hrun : (execOp a.eval o).run P w = .ok .skip (w.setCells b off [u]) := by
    simp only [execOp, ho, hv, Instr.storeAt, Instr.sureAddr, Sem.run_bind, Sem.run_pure, Result.andThen_ok, hst]
  unfold Oper.wp
  rw [hrun]
  exact hn undef _ ρ _ _ hs' hmv (.sc _) h
theorem St.raw0 (hs : St F ρ st w0 w) {tk : TK} (hq : st[q]? = some tk) : ∃ ρ', St F ρ' (st.set q ⟨tk.g + 1, .obj (RawP .nil)⟩) w0 w ∧ Mv F ρ st w ρ' (st.set q ⟨tk.g + 1, .obj (RawP .nil)⟩) w := by
  let ρ' : Loc := fun j => if j = q then (0, 0) else ρ j
  have hρ : ρ' q = (0, 0) := if_pos rfl
  have hρj : ∀ j, j ≠ q → ρ' j = ρ j := fun j hj => if_neg hj
  have hno : ∀ b, ¬ foot ρ' q (.obj (RawP .nil)) b := fun b hf => by
    have : (ρ' q).2.testBit b = true := hf
    rw [hρ] at this
    simp at this
  have hmv : Mv F ρ st w ρ' (st.set q ⟨tk.g + 1, .obj (RawP .nil)⟩) w := Mv.upd hq hρj (fun b o hf ho => ⟨hno b, ho⟩) (.inr (.inl (Nat.lt_succ_self _)))
  refine ⟨ρ', hs.upd hq hρj hs.below (Nat.le_refl _) hmv (fun _ _ _ _ _ _ => rfl) (fun b hf => (hno b hf).elim) (fun j tq b hj hjq hf hf' => hno b hf') (fun ty cs e => by cases e) (fun el sz xs e => by cases e) (fun p e => ?_), hmv⟩
  injection e with e
  subst e
  exact ⟨fun b => ⟨fun h => (hno b h).elim, fun h => by cases h⟩, fun b ty vs hb => by cases hb⟩
theorem AW.raw0 {c : Code} {Q : APost} (q : Nat) {tk : TK} (hq : st[q]? = some tk) (h : AW P c Q t (st.set q ⟨tk.g + 1, .obj (RawP .nil)⟩)) : AW P c Q t st := fun F ρ w0 w a hs hm => by
  obtain ⟨ρ', h1, h2⟩ := hs.raw0 hq
  exact h F ρ' w0 w a h1 (hm.mv h2)
theorem St.own_raw {k g el sz : Nat} {xs : List (List AV)} (hs : St F ρ st w0 w) (hk : st[k]? = some ⟨g, .own el sz xs⟩) (hq : st[q]? = some ⟨G, .obj (RawP M)⟩) : ∃ vs ρ', M (ρ k).1 = none ∧ (ρ k).2 ≤ maxLen ∧ vs.size = (ρ k).2 * sz ∧ xs.length ≤ (ρ k).2 ∧ (∀ (i : Nat) (cs : List AV), xs[i]? = some cs → cs.length = sz) ∧ (∀ (i : Nat) (cs : List AV) (j : Nat) (u : Value), xs[i]? = some cs → cs[j]? = some (.sc u) → vs[i * sz + j]? = some u) ∧ (∀ (i : Nat) (cs : List AV) (j : Nat), xs[i]? = some cs → cs[j]? = some (.sl []) → ∃ A c, vs[i * sz + j]? = some (.slice A 0 c) ∧ c ≤ maxLen) ∧ St F ρ' ((st.set k ⟨g, .off⟩).set q ⟨G, .obj (RawP (M.set (ρ k).1 (el, vs)))⟩) w0 w ∧ Mv F ρ st w ρ' ((st.set k ⟨g, .off⟩).set q ⟨G, .obj (RawP (M.set (ρ k).1 (el, vs)))⟩) w := by
  have hklt := (List.getElem?_eq_some_iff.1 hk).1
  have hqlt := (List.getElem?_eq_some_iff.1 hq).1
  have hne : q ≠ k := fun e => by subst e; rw [hk] at hq; injection hq with hq; injection hq with _ hq; cases hq
  obtain ⟨vs0, g1, g2, g3, g4, g5⟩ := hs.own k g el sz xs hk
  have hcm : (ρ k).2 ≤ maxLen := by
    rcases g1.2 with ⟨e, _⟩ | ⟨g', cap, cur, e, _, _, _, cm, _⟩
    · cases e
    injection e with _ _ e3
    rw [e3]; exact cm
  obtain ⟨cur, c1, c2, c3, c4, c5⟩ := own_cur g1
  have hfk : foot ρ k (.own el sz xs) (ρ k).1 := rfl
  have hMb : M (ρ k).1 = none := by
    cases hm : M (ρ k).1 with
    | none => rfl
    | some r => exact absurd (hs.inj q _ k _ _ hq ((foot_raw hs hq _).2 (by rw [hm]; rfl)) hk hfk) hne
  let B := (ρ k).1
  let ρ' : Loc := fun j => if j = q then ((ρ q).1, (ρ q).2 ||| 2 ^ (ρ k).1) else ρ j
  have hρ : ρ' q = ((ρ q).1, (ρ q).2 ||| 2 ^ (ρ k).1) := if_pos rfl
  have hρj : ∀ j, j ≠ q → ρ' j = ρ j := fun j hj => if_neg hj
  have hfq : ∀ p p' b, foot ρ' q (.obj p) b ↔ foot ρ q (.obj p') b ∨ b = (ρ k).1 := fun p p' b => by
    show (ρ' q).2.testBit b = true ↔ (ρ q).2.testBit b = true ∨ b = (ρ k).1
    rw [hρ]
    simp only [Nat.testBit_or, Nat.testBit_two_pow, Bool.or_eq_true, decide_eq_true_eq]
    exact ⟨fun h => h.imp id Eq.symm, fun h => h.imp id Eq.symm⟩
  have look : ∀ j tk, ((st.set k ⟨g, .off⟩).set q ⟨G, .obj (RawP (M.set (ρ k).1 (el, cur)))⟩)[j]? = some tk → (j = q ∧ tk = ⟨G, .obj (RawP (M.set (ρ k).1 (el, cur)))⟩) ∨ (j ≠ q ∧ j = k ∧ tk = ⟨g, .off⟩) ∨ (j ≠ q ∧ j ≠ k ∧ st[j]? = some tk) := fun j tk hj => by
    by_cases e : q = j
    · subst e
      rw [List.getElem?_set_self (by simpa using hqlt)] at hj
      injection hj with hj
      exact .inl ⟨rfl, hj.symm⟩
    rw [List.getElem?_set_ne e] at hj
    by_cases e2 : k = j
    · subst e2
      rw [List.getElem?_set_self hklt] at hj
      injection hj with hj
      exact .inr (.inl ⟨fun h => e h.symm, rfl, hj.symm⟩)
    rw [List.getElem?_set_ne e2] at hj
    exact .inr (.inr ⟨fun h => e h.symm, fun h => e2 h.symm, hj⟩)
  have hother : ∀ j tk, j ≠ q → j ≠ k → st[j]? = some tk → ((st.set k ⟨g, .off⟩).set q ⟨G, .obj (RawP (M.set (ρ k).1 (el, cur)))⟩)[j]? = some tk := fun j tk h1 h2 hj => by
    rw [List.getElem?_set_ne (fun e => h1 e.symm), List.getElem?_set_ne (fun e => h2 e.symm)]; exact hj
  have hmv : Mv F ρ st w ρ' ((st.set k ⟨g, .off⟩).set q ⟨G, .obj (RawP (M.set (ρ k).1 (el, cur)))⟩) w := by
    refine ⟨fun b o hf ho => ⟨⟨hf.1, fun j tk hj hf' => ?_⟩, ho⟩, fun j tk hj => ?_⟩
    · rcases look j tk hj with ⟨rfl, rfl⟩ | ⟨_, rfl, rfl⟩ | ⟨h1, h2, h3⟩
      · rcases (hfq _ (RawP M) b).1 hf' with h | h
        · exact hf.2 _ _ hq h
        subst h; exact hf.2 _ _ hk hfk
      · exact hf'
      exact hf.2 j tk h3 ((foot_loc (hρj j h1)).1 hf')
    by_cases e : j = q
    · subst e
      rw [hq] at hj
      injection hj with hj
      subst hj
      exact ⟨⟨G, .obj (RawP (M.set (ρ k).1 (el, cur)))⟩, List.getElem?_set_self (by simpa using hqlt), .inr (.inr (.inr ⟨rfl, by rw [hρ], rfl, rfl⟩))⟩
    by_cases e2 : j = k
    · subst e2
      rw [hk] at hj
      injection hj with hj
      subst hj
      exact ⟨⟨g, .off⟩, by rw [List.getElem?_set_ne (fun h => e h.symm), List.getElem?_set_self hklt], .inr (.inr (.inl ⟨rfl, rfl⟩))⟩
    exact ⟨tk, hother j tk e e2 hj, .inl ⟨rfl, hρj j e⟩⟩
  have hge : ∀ (j : Nat) (tk : TK) (b : Nat), ((st.set k ⟨g, .off⟩).set q ⟨G, .obj (RawP (M.set (ρ k).1 (el, cur)))⟩)[j]? = some tk → foot ρ' j tk.c b → ((w0.w.heap.size ≤ b ∨ w0.M b) ∧ F b) ∧ b < w.heap.size := fun j tk b hj hf => by
    rcases look j tk hj with ⟨rfl, rfl⟩ | ⟨_, rfl, rfl⟩ | ⟨h1, h2, h3⟩
    · rcases (hfq _ (RawP M) b).1 hf with h | h
      · exact hs.ge _ _ b hq h
      subst h; exact hs.ge k _ _ hk hfk
    · exact hf.elim
    exact hs.ge j tk b h3 ((foot_loc (hρj j h1)).1 hf)
  refine ⟨cur, ρ', hMb, hcm, c3, c2, g4, fun i cs j u hi hj => ?_, fun i cs j hi hj => ?_, ⟨hs.below, hs.fresh, ?_, ?_, ?_, hge, ?_, hist_mv hs.hist hmv⟩, hmv⟩
  · have hil := (List.getElem?_eq_some_iff.1 hi).1
    have hjl : j < sz := by have := g4 i cs hi; have := (List.getElem?_eq_some_iff.1 hj).1; omega
    have hlt : i * sz + j < xs.length * sz := by
      have := Nat.mul_le_mul_right sz (show i + 1 ≤ xs.length by omega)
      rw [Nat.succ_mul] at this
      omega
    have hv0 : vs0[i * sz + j]? = some (vs0[i * sz + j]'(by omega)) := List.getElem?_eq_getElem (by omega)
    have := (g5 i j cs _ _ hi hj hv0).of_sc
    rw [this, ← c4, List.getElem?_take, if_pos hlt, Array.getElem?_toList] at hv0
    exact hv0
  · have hil := (List.getElem?_eq_some_iff.1 hi).1
    have hjl : j < sz := by have := g4 i cs hi; have := (List.getElem?_eq_some_iff.1 hj).1; omega
    have hlt : i * sz + j < xs.length * sz := by
      have := Nat.mul_le_mul_right sz (show i + 1 ≤ xs.length by omega)
      rw [Nat.succ_mul] at this
      omega
    have hv0 : vs0[i * sz + j]? = some (vs0[i * sz + j]'(by omega)) := List.getElem?_eq_getElem (by omega)
    obtain ⟨A, cc, e, _, hcc⟩ := (g5 i j cs _ _ hi hj hv0).sl_inv
    rw [e, ← c4, List.getElem?_take, if_pos hlt, Array.getElem?_toList] at hv0
    exact ⟨A, cc, hv0, hcc⟩
  · intro j gg ty cs hj
    rcases look j _ hj with ⟨_, e⟩ | ⟨_, _, e⟩ | ⟨h1, h2, h3⟩
    · injection e with _ e; cases e
    · injection e with _ e; cases e
    obtain ⟨us, a1, a2, a3, a4⟩ := hs.box j gg ty cs h3
    rw [hρj j h1]
    exact ⟨us, a1, a2, a3, fun j v x hv hx => (a4 j v x hv hx).mv hmv⟩
  · intro j gg el' sz' xs' hj
    rcases look j _ hj with ⟨_, e⟩ | ⟨_, _, e⟩ | ⟨h1, h2, h3⟩
    · injection e with _ e; cases e
    · injection e with _ e; cases e
    obtain ⟨us, a1, a2, a3, a4, a5⟩ := hs.own j gg el' sz' xs' h3
    rw [hρj j h1]
    exact ⟨us, a1, a2, a3, a4, fun i j cs v x a b c => (a5 i j cs v x a b c).mv hmv.free⟩
  · intro j gg p hj
    rcases look j _ hj with ⟨rfl, e⟩ | ⟨_, _, e⟩ | ⟨h1, h2, h3⟩
    · injection e with _ e
      injection e with e
      subst e
      obtain ⟨a1, a2⟩ := hs.obj _ G _ hq
      refine ⟨fun b => ?_, fun b ty vs hb => ?_⟩
      · rw [hfq _ (RawP M) b]
        by_cases e : b = (ρ k).1
        · subst e; rw [RM.set_self]; simp
        rw [RM.set_ne M _ e]
        exact ⟨fun h => (a1 b).1 (h.resolve_right e), fun h => .inl ((a1 b).2 h)⟩
      by_cases e : b = (ρ k).1
      · subst e
        rw [RM.set_self] at hb
        injection hb with hb
        injection hb with e1 e2
        subst e1 e2
        exact c1
      rw [RM.set_ne M _ e] at hb
      exact a2 b ty vs hb
    · injection e with _ e; cases e
    have h4 := hs.obj j gg p h3
    have e : foot ρ' j (.obj p) = foot ρ j (.obj p) := by funext b; exact propext (foot_loc (hρj j h1))
    rw [hρj j h1, e]
    exact p.stab h4 (Nat.le_refl _) (fun b hb => ⟨hs.fresh b hb, fun i tk hi hf => by have := (hge i tk b hi hf).2; omega⟩) hmv.free (fun b hf => rfl)
  intro i tk i' tk' b hi hf hi' hf'
  rcases look i tk hi with ⟨rfl, rfl⟩ | ⟨_, rfl, rfl⟩ | ⟨h1, h2, h3⟩
  · rcases look i' tk' hi' with ⟨rfl, rfl⟩ | ⟨_, rfl, rfl⟩ | ⟨h1', h2', h3'⟩
    · rfl
    · exact hf'.elim
    rcases (hfq _ (RawP M) b).1 hf with h | h
    · exact absurd (hs.inj _ _ i' _ b hq h h3' ((foot_loc (hρj i' h1')).1 hf')).symm h1'
    subst h; exact absurd (hs.inj k _ i' _ _ hk hfk h3' ((foot_loc (hρj i' h1')).1 hf')).symm h2'
  · exact hf.elim
  rcases look i' tk' hi' with ⟨rfl, rfl⟩ | ⟨_, rfl, rfl⟩ | ⟨h1', h2', h3'⟩
  · rcases (hfq _ (RawP M) b).1 hf' with h | h
    · exact absurd (hs.inj i _ _ _ b h3 ((foot_loc (hρj i h1)).1 hf) hq h) h1
    subst h; exact absurd (hs.inj i _ k _ _ h3 ((foot_loc (hρj i h1)).1 hf) hk hfk) h2
  · exact hf'.elim
  exact hs.inj i _ i' _ b h3 ((foot_loc (hρj i h1)).1 hf) h3' ((foot_loc (hρj i' h1')).1 hf')
theorem Fm.own_raw {k g el sz n c : Nat} {xs : List (List AV)} {ρ' : Loc} {st' : List TK} {a : Act} (hm : Fm F ρ st w a t) (d : Nat) (hd : t[d]? = some (.ow k g)) (hk : st[k]? = some ⟨g, .own el sz xs⟩) (h2 : Mv F ρ st w ρ' st' w) (hn : n = xs.length) (hc : c = (ρ k).2) : Fm F ρ' st' w a (t.set d (.sc (.slice (some ⟨(ρ k).1, 0, none⟩) n c))) := by
  subst hn hc
  have hmm := hm.mv h2
  refine ⟨hmm.defers, by simp [hmm.size], fun i v x hv hx => ?_⟩; rw [List.getElem?_set] at hx
  split at hx
  · rename_i e
    subst e
    split at hx
    · injection hx with hx
      subst hx
      rw [(hm.rep d v _ hv hd).ow_inv hk]
      exact .sc _
    cases hx
  exact hmm.rep i v x hv hx
theorem AL.own_raw {k g el sz : Nat} {xs : List (List AV)} (d : Nat) (hd : t[d]? = some (.ow k g)) (hk : st[k]? = some ⟨g, .own el sz xs⟩) (hq : st[q]? = some ⟨G, .obj (RawP M)⟩) (h : ∀ b c vs, M b = none → c ≤ maxLen → vs.size = c * sz → xs.length ≤ c → (∀ (i : Nat) (cs : List AV), xs[i]? = some cs → cs.length = sz) → (∀ (i : Nat) (cs : List AV) (j : Nat) (u : Value), xs[i]? = some cs → cs[j]? = some (.sc u) → vs[i * sz + j]? = some u) → (∀ (i : Nat) (cs : List AV) (j : Nat), xs[i]? = some cs → cs[j]? = some (.sl []) → ∃ A c, vs[i * sz + j]? = some (.slice A 0 c) ∧ c ≤ maxLen) → AL P ops K l (t.set d (.sc (.slice (some ⟨b, 0, none⟩) xs.length c))) ((st.set k ⟨g, .off⟩).set q ⟨G, .obj (RawP (M.set b (el, vs)))⟩)) : AL P ops K l t st := fun F ρ w0 w a hs hm => by
  obtain ⟨vs, ρ', a1, a0, a2, a3, a4, a5, a8, a6, a7⟩ := hs.own_raw hk hq
  exact h _ _ vs a1 a0 a2 a3 a4 a5 a8 F ρ' w0 w a a6 (hm.own_raw d hd hk a7 rfl rfl)
end
end Go.Proofs.Ytlapcfnmmpbeeaa
