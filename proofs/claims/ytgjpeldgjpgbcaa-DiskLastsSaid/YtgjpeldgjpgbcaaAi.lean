/- Calls with objects: a function that is handed tickets of its caller's, and hands them back. No conditions. -/
import Derived.Test.YtgjpeldgjpgbcaaAh
namespace Go.Proofs.Ytgjpeldgjpgbcaa
set_option linter.unusedSimpArgs false
set_option linter.unusedVariables false
open Go.RowKit

/-! Tickets by other numbers. -/
def ren0 (ks : List Nat) : AV → AV
  | .ow k g => .ow (ks.getD k 0) g
  | .bx k g o => .bx (ks.getD k 0) g o
  | x => x
def ren1 (ks : List Nat) : AV → AV
  | .ag cs => .ag (cs.map (ren0 ks))
  | x => ren0 ks x
def ren2 (ks : List Nat) : AV → AV
  | .tu vs => .tu (vs.map (ren1 ks))
  | x => ren1 ks x
def renC (ks : List Nat) : TC → TC
  | .box ty cs => .box ty (cs.map (ren0 ks))
  | c => c
def renT (ks : List Nat) (tk : TK) : TK := ⟨tk.g, renC ks tk.c⟩
theorem ren_blk {ks : List Nat} {c : TC} : (renC ks c).blk ↔ c.blk := by cases c <;> exact Iff.rfl
theorem ren_isB {ks : List Nat} {c : TC} : (renC ks c).isB = c.isB := by cases c <;> rfl
theorem ren_foot {ks : List Nat} {ρ ρ' : Loc} {k i b : Nat} {c : TC} (h : ρ' k = ρ i) : foot ρ' k (renC ks c) b ↔ foot ρ i c b := by cases c <;> simp only [foot, renC, h]
/-- A cell that names only tickets of os that are there. -/
def okC (os : List TK) : AV → Bool
  | .ow k g => liveA os (.ow k g)
  | .bx k g o => liveA os (.bx k g o)
  | .sc _ => true
  | .sl _ => true
  | .any => true
  | _ => false
def ok1 (os : List TK) : AV → Bool
  | .ag cs => cs.all (okC os)
  | x => okC os x
def ok2 (os : List TK) : AV → Bool
  | .tu vs => vs.all (ok1 os)
  | x => ok1 os x
def cleanT (os : List TK) (tk : TK) : Bool := match tk.c with
  | .box _ cs => cs.all (okC os)
  | _ => true
def cleanS (os : List TK) : Bool := os.all (cleanT os)
theorem clean_box {os : List TK} {k g : Nat} {ty : TypeId} {cs : List AV} {j : Nat} {x : AV} (h : cleanS os = true) (hk : os[k]? = some ⟨g, .box ty cs⟩) (hx : cs[j]? = some x) : okC os x = true := by
  unfold cleanS at h
  rw [List.all_eq_true] at h
  have h1 := h _ (List.mem_of_getElem? hk)
  unfold cleanT at h1
  simp only [List.all_eq_true] at h1
  exact h1 _ (List.mem_of_getElem? hx)

/-! From one store to another: what a live cell stands for. -/
/-- The tickets of os lie in st by the numbers ks. -/
structure Sub (ks : List Nat) (ρ : Loc) (os : List TK) (ρ' : Loc) (st : List TK) : Prop where
  tk : ∀ (i : Nat) (tk : TK), os[i]? = some tk → ∃ k, ks[i]? = some k ∧ st[k]? = some (renT ks tk) ∧ ρ' k = ρ i
section
variable {F F' : Nat → Prop} {ρ ρ' : Loc} {os st : List TK} {ks : List Nat} {w : World} {v : Value} {x : AV}
theorem live_ow' {os : List TK} {k g : Nat} (h : liveA os (.ow k g) = true) : (∃ el sz xs, os[k]? = some ⟨g, .own el sz xs⟩) ∨ ∃ el sz, os[k]? = some ⟨g, .nown el sz⟩ := by
  obtain ⟨c, h1, h2⟩ := live_tk (p := TC.isO) h
  cases c with
  | own el sz xs => exact .inl ⟨el, sz, xs, h1⟩
  | nown el sz => exact .inr ⟨el, sz, h1⟩
  | _ => cases h2
theorem live_bx' {os : List TK} {k g o : Nat} (h : liveA os (.bx k g o) = true) : ∃ c, os[k]? = some ⟨g, c⟩ ∧ c.isB = true := live_tk (p := TC.isB) h
/-- Back: a cell over st, by the numbers ks, is one over os. -/
theorem back0 (hS : Sub ks ρ os ρ' st) (hf : ∀ b, Free F' ρ' st b → Free F ρ os b) (hx : okC os x = true) (h : Rep F' ρ' st w v (ren0 ks x)) : Rep F ρ os w v x := by
  cases x with
  | sc u => cases (show Rep F' ρ' st w v (.sc u) from h) with | s h => cases h; exact .sc _
  | sl xs => exact .s ((show Rep F' ρ' st w v (.sl xs) from h).sl_s.mono fun b _ hb => hf b hb)
  | any => exact .any v
  | ow k g =>
    rcases live_ow' (by simpa [okC] using hx) with ⟨el, sz, xs, hk⟩ | ⟨el, sz, hk⟩
    · obtain ⟨k', h1, h2, h3⟩ := hS.tk k _ hk
      have e : ks.getD k 0 = k' := by rw [List.getD_eq_getElem?_getD, h1]; rfl
      have h' : Rep F' ρ' st w v (.ow k' g) := by rw [← e]; exact h
      rw [h'.ow_inv h2, h3]
      exact .ow k g el sz xs hk
    · obtain ⟨k', h1, h2, h3⟩ := hS.tk k _ hk
      have e : ks.getD k 0 = k' := by rw [List.getD_eq_getElem?_getD, h1]; rfl
      have h' : Rep F' ρ' st w v (.ow k' g) := by rw [← e]; exact h
      rw [h'.ow0_inv h2]
      exact .ow0 k g el sz hk
  | bx k g o =>
    obtain ⟨c, hk, hc⟩ := live_bx' (by simpa [okC] using hx)
    obtain ⟨k', h1, h2, h3⟩ := hS.tk k _ hk
    have e : ks.getD k 0 = k' := by rw [List.getD_eq_getElem?_getD, h1]; rfl
    have h' : Rep F' ρ' st w v (.bx k' g o) := by rw [← e]; exact h
    rw [h'.bx_invB h2 (ren_isB.trans hc), h3]
    exact .ptr hk rfl hc
  | _ => simp [okC] at hx
/-- On: a cell over os is one over st, by the numbers ks. -/
theorem on0 (hS : Sub ks ρ os ρ' st) (hf : ∀ b, Free F ρ os b → Free F' ρ' st b) (hx : okC os x = true) (h : Rep F ρ os w v x) : Rep F' ρ' st w v (ren0 ks x) := by
  cases x with
  | sc u => cases h with | s h => cases h; exact .sc _
  | sl xs => exact .s (h.sl_s.mono fun b _ hb => hf b hb)
  | any => exact .any v
  | ow k g =>
    rcases live_ow' (by simpa [okC] using hx) with ⟨el, sz, xs, hk⟩ | ⟨el, sz, hk⟩
    · obtain ⟨k', h1, h2, h3⟩ := hS.tk k _ hk
      have e : ks.getD k 0 = k' := by rw [List.getD_eq_getElem?_getD, h1]; rfl
      rw [h.ow_inv hk, ← h3]
      show Rep F' ρ' st w _ (.ow (ks.getD k 0) g)
      rw [e]
      exact .ow k' g el sz xs h2
    · obtain ⟨k', h1, h2, h3⟩ := hS.tk k _ hk
      have e : ks.getD k 0 = k' := by rw [List.getD_eq_getElem?_getD, h1]; rfl
      rw [h.ow0_inv hk]
      show Rep F' ρ' st w _ (.ow (ks.getD k 0) g)
      rw [e]
      exact .ow0 k' g el sz h2
  | bx k g o =>
    obtain ⟨c, hk, hc⟩ := live_bx' (by simpa [okC] using hx)
    obtain ⟨k', h1, h2, h3⟩ := hS.tk k _ hk
    have e : ks.getD k 0 = k' := by rw [List.getD_eq_getElem?_getD, h1]; rfl
    rw [h.bx_invB hk hc, ← h3]
    show Rep F' ρ' st w _ (.bx (ks.getD k 0) g o)
    rw [e]
    exact .ptr h2 rfl (ren_isB.trans hc)
  | _ => simp [okC] at hx
theorem Rep.ag_inv {F : Nat → Prop} {ρ : Loc} {st : List TK} {cs : List AV} (h : Rep F ρ st w v (.ag cs)) : ∃ vs : Array Value, v = .agg vs ∧ vs.size = cs.length ∧ (∀ v ∈ vs, v.oneCell' = true) ∧ ∀ (j : Nat) v x, vs[j]? = some v → cs[j]? = some x → Rep F ρ st w v x := by
  cases h with
  | s h => cases h with | ag vs _ hs h1 hr => exact ⟨vs, rfl, hs, h1, fun j v x a b => .s (hr j v x a b)⟩
  | ag vs _ hs h1 hr => exact ⟨vs, rfl, hs, h1, hr⟩
theorem Rep.tu_inv {F : Nat → Prop} {ρ : Loc} {st : List TK} {cs : List AV} (h : Rep F ρ st w v (.tu cs)) : ∃ vs : Array Value, v = .tuple vs ∧ vs.size = cs.length ∧ ∀ (j : Nat) v x, vs[j]? = some v → cs[j]? = some x → Rep F ρ st w v x := by
  cases h with
  | s h => cases h with | tu vs _ hs hr => exact ⟨vs, rfl, hs, fun j v x a b => .s (hr j v x a b)⟩
  | tu vs _ hs hr => exact ⟨vs, rfl, hs, hr⟩
theorem on1 (hS : Sub ks ρ os ρ' st) (hf : ∀ b, Free F ρ os b → Free F' ρ' st b) (hx : ok1 os x = true) (h : Rep F ρ os w v x) : Rep F' ρ' st w v (ren1 ks x) := by
  cases x with
  | ag cs =>
    obtain ⟨vs, rfl, h1, h2, h3⟩ := h.ag_inv
    have hx' : ∀ y ∈ cs, okC os y = true := by simpa [ok1] using hx
    refine .ag vs _ (by simpa using h1) h2 fun j v y hv hy => ?_
    rw [List.getElem?_map] at hy
    cases hc : cs[j]? with
    | none => rw [hc] at hy; cases hy
    | some z =>
      rw [hc] at hy
      injection hy with hy
      subst hy
      exact on0 hS hf (hx' z (List.mem_of_getElem? hc)) (h3 j v z hv hc)
  | _ => refine on0 hS hf ?_ h; exact hx
theorem on2 (hS : Sub ks ρ os ρ' st) (hf : ∀ b, Free F ρ os b → Free F' ρ' st b) (hx : ok2 os x = true) (h : Rep F ρ os w v x) : Rep F' ρ' st w v (ren2 ks x) := by
  cases x with
  | tu cs =>
    obtain ⟨vs, rfl, h1, h3⟩ := h.tu_inv
    have hx' : ∀ y ∈ cs, ok1 os y = true := by simpa [ok2] using hx
    refine .tu vs _ (by simpa using h1) fun j v y hv hy => ?_
    rw [List.getElem?_map] at hy
    cases hc : cs[j]? with
    | none => rw [hc] at hy; cases hy
    | some z =>
      rw [hc] at hy
      injection hy with hy
      subst hy
      exact on1 hS hf (hx' z (List.mem_of_getElem? hc)) (h3 j v z hv hc)
  | _ => refine on1 hS hf ?_ h; exact hx
theorem back1 (hS : Sub ks ρ os ρ' st) (hf : ∀ b, Free F' ρ' st b → Free F ρ os b) (hx : ok1 os x = true) (h : Rep F' ρ' st w v (ren1 ks x)) : Rep F ρ os w v x := by
  cases x with
  | ag cs =>
    obtain ⟨vs, rfl, h1, h2, h3⟩ := Rep.ag_inv (show Rep F' ρ' st w v (.ag (cs.map (ren0 ks))) from h)
    have hx' : ∀ y ∈ cs, okC os y = true := by simpa [ok1] using hx
    refine .ag vs _ (by simpa using h1) h2 fun j v y hv hy => ?_
    exact back0 hS hf (hx' y (List.mem_of_getElem? hy)) (h3 j v _ hv (by rw [List.getElem?_map, hy]; rfl))
  | _ => exact back0 hS hf hx h
end

/-! The contract of a function with objects. -/
/-- The function f, handed data and the tickets os, answers y and leaves the tickets os' as R says; all other memory is as it was. -/
def ACo (P : Program) (f : FuncId) (args : List AV) (os : List TK) (R : AV → List TK → Prop) : Prop := ∀ (F : Nat → Prop) (ρ : Loc) (w : World) (vs : Array Value), vs.size = args.length → St F ρ os ⟨w, ρ, os⟩ w → (∀ (j : Nat) v x, vs[j]? = some v → args[j]? = some x → Rep F ρ os w v x) →
  Calls P f vs w fun e w' => ∃ v y ρ' os', e = .returned v ∧ St F ρ' os' ⟨w, ρ, os⟩ w' ∧ os'.length = os.length ∧ cleanS os' = true ∧ ok2 os' y = true ∧ Rep F ρ' os' w' v y ∧ R y os'
theorem ACo.mono {P : Program} {f : FuncId} {args : List AV} {os : List TK} {R R' : AV → List TK → Prop} (h : ACo P f args os R) (hr : ∀ y os', R y os' → R' y os') : ACo P f args os R' := fun F ρ w vs h1 h2 h3 =>
  (h F ρ w vs h1 h2 h3).mono fun _ _ ⟨v, y, ρ', os', a, b, c, d, e, f, g⟩ => ⟨v, y, ρ', os', a, b, c, d, e, f, hr y os' g⟩

/-! A whole function. -/
/-- A result: an own slice of the function's own is settled. -/
def resO0 (n : Nat) (st : List TK) : AV → Option AV
  | .sc v => some (.sc v)
  | .sl xs => some (.sl xs)
  | .ow k g => if k < n then (if liveA st (.ow k g) then some (.ow k g) else none) else set0 st (.ow k g)
  | .bx k g o => if k < n then (if liveA st (.bx k g o) then some (.bx k g o) else none) else none
  | _ => none
def resOs (n : Nat) (st : List TK) : List AV → Option (List AV)
  | [] => some []
  | x :: xs => match resO0 n st (nz x), resOs n st xs with | some y, some ys => some (y :: ys) | _, _ => none
def resO1 (n : Nat) (st : List TK) : AV → Option AV
  | .ag cs => match resOs n st cs with | some ys => some (.ag ys) | none => none
  | x => resO0 n st (nz x)
section
variable {P : Program} {F : Nat → Prop} {ρ : Loc} {st : List TK} {w0 : Bs} {w : World} {v : Value} {x z y : AV} {n : Nat} {t : List AV} {a : Act} {fn : Func} {R : AV → List TK → Prop}
theorem take_get {k : Nat} {tk : TK} (h : (st.take n)[k]? = some tk) : st[k]? = some tk := by
  rw [List.getElem?_take] at h
  split at h
  · exact h
  · cases h
theorem get_take {k : Nat} {tk : TK} (h : st[k]? = some tk) (hk : k < n) : (st.take n)[k]? = some tk := by rw [List.getElem?_take, if_pos hk]; exact h
theorem free_take {b : Nat} (h : Free F ρ st b) : Free F ρ (st.take n) b := ⟨h.1, fun k tk hk hb => h.2 k tk (take_get hk) hb⟩
theorem resO0_rep (hs : St F ρ st w0 w) (h : Rep F ρ st w v z) (hz : resO0 n st z = some y) : Rep F ρ (st.take n) w v y := by
  cases z with
  | sc u => simp [resO0] at hz; subst hz; cases h with | s h => exact .s (h.mono fun b _ hb => free_take hb)
  | sl xs => simp [resO0] at hz; subst hz; exact .s (h.sl_s.mono fun b _ hb => free_take hb)
  | ow k g =>
    simp only [resO0] at hz
    split at hz
    · rename_i hk
      split at hz
      · rename_i hl
        injection hz with hz
        subst hz
        rcases live_ow' hl with ⟨el, sz, xs, h1⟩ | ⟨el, sz, h1⟩
        · rw [h.ow_inv h1]; exact .ow k g el sz xs (get_take h1 hk)
        · rw [h.ow0_inv h1]; exact .ow0 k g el sz (get_take h1 hk)
      · cases hz
    · rename_i hk
      simp only [set0] at hz
      cases hkk : st[k]? with
      | none => rw [hkk] at hz; cases hz
      | some tk =>
        obtain ⟨g', c⟩ := tk
        rw [hkk] at hz
        cases c with
        | own el sz xs =>
          simp at hz
          obtain ⟨rfl, rfl⟩ := hz
          rw [h.ow_inv hkk]
          obtain ⟨vs, h1, h2, h3, h4, h5⟩ := hs.own k _ el sz xs hkk
          have hge := hs.geB k _ hkk (by simp)
          refine .s (RepO.sl (base := 0) (el := el) ⟨vs, h1, h2, h3, h4, fun i j cs v x a b c => (h5 i j cs v x a b c).mono fun b _ hb => ⟨free_take hb, fun e => hb.ne k _ hkk (by simp) e.symm⟩⟩ ⟨hge.1.2, fun j tk hj hb => ?_⟩)
          have h6 := hs.inj j tk k _ _ (take_get hj) hb hkk rfl
          subst h6
          rw [List.getElem?_take, if_neg hk] at hj
          cases hj
        | nown el sz =>
          simp at hz
          obtain ⟨rfl, rfl⟩ := hz
          rw [h.ow0_inv hkk]
          exact .s (.sl0 _ _ (Nat.zero_le _))
        | _ => simp at hz
  | bx k g o =>
    simp only [resO0] at hz
    split at hz
    · rename_i hk
      split at hz
      · rename_i hl
        injection hz with hz
        subst hz
        obtain ⟨c, h1, hc⟩ := live_bx' hl
        rw [h.bx_invB h1 hc]
        exact .ptr (get_take h1 hk) rfl hc
      · cases hz
    · cases hz
  | _ => simp [resO0] at hz
theorem resOs_get : ∀ (cs ys : List AV), resOs n st cs = some ys → cs.length = ys.length ∧ ∀ (j : Nat) x y, cs[j]? = some x → ys[j]? = some y → resO0 n st (nz x) = some y
  | [], ys, h => by simp [resOs] at h; subst h; simp
  | x :: xs, ys, h => by
    simp only [resOs] at h
    cases h1 : resO0 n st (nz x) with
    | none => rw [h1] at h; cases h
    | some y =>
      cases h2 : resOs n st xs with
      | none => rw [h1, h2] at h; cases h
      | some ys' =>
        rw [h1, h2] at h
        injection h with h
        subst h
        obtain ⟨h3, h4⟩ := resOs_get xs ys' h2
        refine ⟨by simp [h3], fun j x' y' hx hy => ?_⟩
        cases j with
        | zero => simp at hx hy; subst hx hy; exact h1
        | succ j => exact h4 j x' y' (by simpa using hx) (by simpa using hy)
theorem resO1_rep (hs : St F ρ st w0 w) (h : Rep F ρ st w v z) (hz : resO1 n st z = some y) : Rep F ρ (st.take n) w v y := by
  cases z with
  | ag cs =>
    simp only [resO1] at hz
    cases h1 : resOs n st cs with
    | none => rw [h1] at hz; cases hz
    | some ys =>
      rw [h1] at hz
      injection hz with hz
      subst hz
      obtain ⟨h2, h3⟩ := resOs_get cs ys h1
      obtain ⟨vs, rfl, g1, g2, g3⟩ := h.ag_inv
      refine .ag vs ys (by omega) g2 fun j v y hv hy => ?_
      have hj : j < cs.length := by rw [h2]; exact (List.getElem?_eq_some_iff.1 hy).1
      exact resO0_rep hs (g3 j v _ hv (List.getElem?_eq_getElem hj)).nz (h3 j _ y (List.getElem?_eq_getElem hj) hy)
  | _ => exact resO0_rep hs h.nz (by simpa [resO1] using hz)
theorem okC_take {x : AV} (hx : okC (st.take n) x = true) (h : Rep F ρ st w v x) : Rep F ρ (st.take n) w v x := by
  cases x with
  | sc u => cases h with | s h => exact .s (h.mono fun b _ hb => free_take hb)
  | sl xs => exact .s (h.sl_s.mono fun b _ hb => free_take hb)
  | any => exact .any v
  | ow k g =>
    rcases live_ow' (by simpa [okC] using hx) with ⟨el, sz, xs, hk⟩ | ⟨el, sz, hk⟩
    · rw [h.ow_inv (take_get hk)]; exact .ow k g el sz xs hk
    · rw [h.ow0_inv (take_get hk)]; exact .ow0 k g el sz hk
  | bx k g o =>
    obtain ⟨c, hk, hc⟩ := live_bx' (by simpa [okC] using hx)
    rw [h.bx_invB (take_get hk) hc]
    exact .ptr hk rfl hc
  | _ => simp [okC] at hx
theorem St.take (hs : St F ρ st w0 w) (hn : w0.os.length ≤ n) (hc : cleanS (st.take n) = true) : St F ρ (st.take n) w0 w where
  below := hs.below
  fresh := hs.fresh
  box k g ty cs hk := by
    obtain ⟨vs, h1, h2, h3, h4⟩ := hs.box k g ty cs (take_get hk)
    exact ⟨vs, h1, h2, h3, fun j v x hv hx => okC_take (clean_box hc hk hx) (h4 j v x hv hx)⟩
  own k g el sz xs hk := by
    obtain ⟨vs, h1, h2, h3, h4, h5⟩ := hs.own k g el sz xs (take_get hk)
    exact ⟨vs, h1, h2, h3, h4, fun i j cs v x a b c => (h5 i j cs v x a b c).mono fun b _ hb => free_take hb⟩
  obj k g p hk := p.stab (hs.obj k g p (take_get hk)) (Nat.le_refl _) (fun b hb => free_take (hs.free_new hb)) (fun b o hf ho => ⟨free_take hf, ho⟩) (fun _ _ => rfl)
  ge k tk b hk hb := hs.ge k tk b (take_get hk) hb
  inj k tk k' tk' b hk hb hk' hb' := hs.inj k tk k' tk' b (take_get hk) hb (take_get hk') hb'
  hist k tk0 h := by
    obtain ⟨tk, h1, h2⟩ := hs.hist k tk0 h
    exact ⟨tk, get_take h1 (Nat.lt_of_lt_of_le (List.getElem?_eq_some_iff.1 h).1 hn), h2⟩
def ResO (P : Program) (fn : Func) (n : Nat) (R : AV → List TK → Prop) (t : List AV) (st : List TK) : Prop := n ≤ st.length ∧ cleanS (st.take n) = true ∧ ∀ F ρ w0 w a, St F ρ st w0 w → Fm F ρ st w a t → ∃ v y, (results fn a.tmps).run P w = .ok v w ∧ Rep F ρ (st.take n) w v y ∧ ok2 (st.take n) y = true ∧ R y (st.take n)
def retO (P : Program) (fn : Func) (n : Nat) (R : AV → List TK → Prop) : APost
  | .ret, t, st => ResO P fn n R t st
  | .normal, t, st => ResO P fn n R t st
  | _, _, _ => False
theorem reso0 (hr : fn.results = #[]) (hn : n ≤ st.length) (hc : cleanS (st.take n) = true) (h : R (.tu []) (st.take n)) : ResO P fn n R t st := ⟨hn, hc, fun F ρ w0 w a hs hm => by
  refine ⟨.tuple #[], .tu [], ?_, .s (RepS.tu #[] [] rfl (by simp)), rfl, h⟩
  rw [res_eq, hr]
  simp [Sem.run_bind]⟩
theorem reso1 {r1 : ResultVar} (hr : fn.results = #[r1]) (hn : n ≤ st.length) (hc : cleanS (st.take n) = true) (h1 : ResV P t st r1 z) (hz : resO1 n st z = some y) (hok : ok2 (st.take n) y = true) (h : R y (st.take n)) : ResO P fn n R t st := ⟨hn, hc, fun F ρ w0 w a hs hm => by
  obtain ⟨v, g1, g2⟩ := h1.run hs hm
  refine ⟨v, y, ?_, resO1_rep hs g2 hz, hok, h⟩
  rw [res_eq, hr]
  simp [Sem.run_bind, g1]⟩
theorem reso2 {r1 r2 : ResultVar} {z1 z2 y1 y2 : AV} (hr : fn.results = #[r1, r2]) (hn : n ≤ st.length) (hc : cleanS (st.take n) = true) (h1 : ResV P t st r1 z1) (hz1 : resO1 n st z1 = some y1) (h2 : ResV P t st r2 z2) (hz2 : resO1 n st z2 = some y2) (hok : ok2 (st.take n) (.tu [y1, y2]) = true) (h : R (.tu [y1, y2]) (st.take n)) : ResO P fn n R t st := ⟨hn, hc, fun F ρ w0 w a hs hm => by
  obtain ⟨v1, g1, q1⟩ := h1.run hs hm
  obtain ⟨v2, g2, q2⟩ := h2.run hs hm
  refine ⟨.tuple #[v1, v2], .tu [y1, y2], ?_, .tu #[v1, v2] [y1, y2] rfl (fun j v x hv hx => ?_), hok, h⟩
  · rw [res_eq, hr]
    simp [Sem.run_bind, g1, g2]
  · match j with
    | 0 => simp at hv hx; subst hv hx; exact resO1_rep hs q1 hz1
    | 1 => simp at hv hx; subst hv hx; exact resO1_rep hs q2 hz2
    | j + 2 => simp at hx⟩
theorem reso3 {r1 r2 r3 : ResultVar} {z1 z2 z3 y1 y2 y3 : AV} (hr : fn.results = #[r1, r2, r3]) (hn : n ≤ st.length) (hc : cleanS (st.take n) = true) (h1 : ResV P t st r1 z1) (hz1 : resO1 n st z1 = some y1) (h2 : ResV P t st r2 z2) (hz2 : resO1 n st z2 = some y2) (h3 : ResV P t st r3 z3) (hz3 : resO1 n st z3 = some y3) (hok : ok2 (st.take n) (.tu [y1, y2, y3]) = true) (h : R (.tu [y1, y2, y3]) (st.take n)) : ResO P fn n R t st := ⟨hn, hc, fun F ρ w0 w a hs hm => by
  obtain ⟨v1, g1, q1⟩ := h1.run hs hm
  obtain ⟨v2, g2, q2⟩ := h2.run hs hm
  obtain ⟨v3, g3, q3⟩ := h3.run hs hm
  refine ⟨.tuple #[v1, v2, v3], .tu [y1, y2, y3], ?_, .tu #[v1, v2, v3] [y1, y2, y3] rfl (fun j v x hv hx => ?_), hok, h⟩
  · rw [res_eq, hr]
    simp [Sem.run_bind, g1, g2, g3]
  · match j with
    | 0 => simp at hv hx; subst hv hx; exact resO1_rep hs q1 hz1
    | 1 => simp at hv hx; subst hv hx; exact resO1_rep hs q2 hz2
    | 2 => simp at hv hx; subst hv hx; exact resO1_rep hs q3 hz3
    | j + 3 => simp at hx⟩
theorem ACo.of {f : FuncId} {c : Code} {args t0 : List AV} {os st0 : List TK} (nt : Nat) (hf : P.funcs[f]? = some fn) (hb : fn.body = some c) (ht : args ++ List.replicate (fn.ntmps - args.length) (AV.sc undef) = t0) (hst : os ++ List.replicate nt (TK.mk 0 .off) = st0) (n : Nat) (hn : os.length = n) (h : AW P c (retO P fn n R) t0 st0) : ACo P f args os R := fun F ρ w vs hsz hs0 hr => by
  subst ht hst hn
  refine calls_of_wp hf hb ?_
  have get : ∀ (k : Nat) (tk : TK), (os ++ List.replicate nt (TK.mk 0 .off))[k]? = some tk → tk.c ≠ .off → os[k]? = some tk := fun k tk hk hne => by
    rcases Nat.lt_or_ge k os.length with h1 | h1
    · rwa [List.getElem?_append_left h1] at hk
    · rw [List.getElem?_append_right h1] at hk
      have := List.eq_of_mem_replicate (List.mem_of_getElem? hk)
      rw [this] at hne
      exact absurd rfl hne
  have hne : ∀ {k b : Nat} (tk : TK), foot ρ k tk.c b → tk.c ≠ .off := fun tk hb e => by rw [e] at hb; exact hb
  have hmv : Mv F ρ os w ρ (os ++ List.replicate nt (TK.mk 0 .off)) w := ⟨fun b o hf ho => ⟨⟨hf.1, fun k tk hk hb => hf.2 k tk (get k tk hk (hne tk hb)) hb⟩, ho⟩, fun k tk hk => ⟨tk, by rw [List.getElem?_append_left (List.getElem?_eq_some_iff.1 hk).1]; exact hk, .inl ⟨rfl, rfl⟩⟩⟩
  have hs : St F ρ (os ++ List.replicate nt (TK.mk 0 .off)) ⟨w, ρ, os⟩ w :=
    { below := hs0.below, fresh := hs0.fresh
      box := fun k g ty cs hk => by
        obtain ⟨vs, h1, h2, h3, h4⟩ := hs0.box k g ty cs (get k _ hk (by simp))
        exact ⟨vs, h1, h2, h3, fun j v x hv hx => (h4 j v x hv hx).mv hmv⟩
      own := fun k g el sz xs hk => by
        obtain ⟨vs, h1, h2, h3, h4, h5⟩ := hs0.own k g el sz xs (get k _ hk (by simp))
        exact ⟨vs, h1, h2, h3, h4, fun i j cs v x a b c => (h5 i j cs v x a b c).mv hmv.free⟩
      obj := fun k g p hk => p.stab (hs0.obj k g p (get k _ hk (by simp))) (Nat.le_refl _) (fun b hb => ⟨hs0.fresh b hb, fun j tk hj hf => by have := (hs0.ge j tk b (get j tk hj (hne tk hf)) hf).2; omega⟩) hmv.free (fun _ _ => rfl)
      ge := fun k tk b hk hb => hs0.ge k tk b (get k tk hk (hne tk hb)) hb
      inj := fun k tk k' tk' b hk hb hk' hb' => hs0.inj k tk k' tk' b (get k tk hk (hne tk hb)) hb (get k' tk' hk' (hne tk' hb')) hb'
      hist := hist_mv hs0.hist hmv }
  have hm : Fm F ρ (os ++ List.replicate nt (TK.mk 0 .off)) w { tmps := vs ++ Array.replicate (fn.ntmps - vs.size) undef, defers := [] } (args ++ List.replicate (fn.ntmps - args.length) (.sc undef)) := by
    refine ⟨rfl, by simp [hsz], fun i v x hv hx => ?_⟩
    simp only [] at hv
    rcases Nat.lt_or_ge i vs.size with hi | hi
    · rw [Array.getElem?_append_left hi] at hv
      rw [List.getElem?_append_left (by omega)] at hx
      exact (hr i v x hv hx).mv hmv
    · rw [Array.getElem?_append_right hi] at hv
      rw [List.getElem?_append_right (by omega)] at hx
      have h1 := List.eq_of_mem_replicate (List.mem_of_getElem? hx)
      have h2 : v = undef := by
        have := Array.mem_of_getElem? hv
        exact (Array.eq_of_mem_replicate this)
      subst h1 h2
      exact .sc _
  refine wp_mono (h F _ _ w _ hs hm) fun e a' w' ⟨ρ', t', st', h1, h2, h3⟩ => ?_
  have fin : ResO P fn os.length R t' st' → ∃ v, (results fn a'.tmps).run P w' = .ok v w' ∧ ∃ v' y ρ'' os', Ending.returned v = .returned v' ∧ St F ρ'' os' ⟨w, ρ, os⟩ w' ∧ os'.length = os.length ∧ cleanS os' = true ∧ ok2 os' y = true ∧ Rep F ρ'' os' w' v' y ∧ R y os' := fun ⟨hn, hc, h4⟩ => by
    obtain ⟨v, y, g1, g2, g3, g4⟩ := h4 F ρ' _ w' a' h1 h2
    exact ⟨v, g1, v, y, ρ', _, rfl, h1.take (Nat.le_refl _) hc, by simp; omega, hc, g3, g2, g4⟩
  cases e with
  | ret => obtain ⟨v, g1, g2⟩ := fin h3; exact ⟨h2.defers, v, g1, g2⟩
  | normal => obtain ⟨v, g1, g2⟩ := fin h3; exact ⟨h2.defers, v, g1, g2⟩
  | _ => exact h3.elim
end
end Go.Proofs.Ytgjpeldgjpgbcaa
