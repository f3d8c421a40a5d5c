/- Calls that are lent memory of one's own: raw memory and own slices as data of a function that answers a plain value. No conditions. -/
import Derived.Test.YtpkjlmaphhileaaDoorRaw
namespace Go.Proofs.YtpkjlmaphhileaaDoor
set_option linter.unusedSimpArgs false
set_option linter.unusedVariables false
set_option maxRecDepth 100000
open Go.RowKit

/-- What raw memory holds, as data. -/
inductive RawS (M : RM) : Value → AV → Prop
  | sc (v : Value) : RawS M v (.sc v)
  | sl0 (A : Option Addr) (c : Nat) (hc : c ≤ maxLen) : RawS M (.slice A 0 c) (.sl [])
  | sl1 (b n c sz : Nat) (T : TypeId) (vs : Array Value) (xs : List (List AV)) (U : Nat → Nat → Value) (hn : xs.length = n) (h0 : 0 < n) (hnc : n ≤ c) (hc : c ≤ maxLen) (hsz : 0 < sz) (hb : M b = some (T, vs)) (hl : ∀ (i : Nat) (cs : List AV), xs[i]? = some cs → cs.length = sz) (hv : ∀ i j, i < n → j < sz → vs[i * sz + j]? = some (U i j)) (h1 : ∀ i j, (U i j).oneCell' = true) (hr : ∀ (i j : Nat) (cs : List AV) x, xs[i]? = some cs → cs[j]? = some x → RawS M (U i j) x) : RawS M (.slice (some ⟨b, 0, none⟩) n c) (.sl xs)
section
variable {P : Program} {o : Oper} {KK : AV → List TK → Prop} {t : List AV} {st : List TK} {x y z : Operand} {G q : Nat} {M : RM} {F : Nat → Prop} {ρ : Loc} {w0 : Bs} {w : World} {v : Value} {xv yv zv : AV}
theorem RawS.rep (h : RawS M v xv) (hs : St F ρ st w0 w) (hq : st[q]? = some ⟨G, .obj (RawP M)⟩) : RepS (fun _ => True) w v xv := by
  induction h with
  | sc v => exact .sc v
  | sl0 A c hc => exact .sl0 A c hc
  | sl1 b n c sz T vs xs U hn h0 hnc hc hsz hb hl hv h1 hr ih =>
    have hp := (hs.obj q G _ hq).2 b T vs hb
    refine .sl1 b 0 n c sz U xs hn h0 hnc hc hsz trivial hl (fun i j hi hj => ?_) h1 ih
    rw [Nat.zero_add, cell_of_row _ _ _ _ _ _ hp, hv i j hi hj]
/-- An argument that is lent. -/
def BArg (t : List AV) (st : List TK) (x : Operand) (z : AV) : Prop := ∀ F ρ w0 w a, St F ρ st w0 w → Fm F ρ st w a t → RepS (fun _ => True) w (a.eval x) z
theorem BArg.sl {xs : List (List AV)} (h : evA t x = .sl xs) : BArg t st x (.sl xs) := fun F ρ w0 w a hs hm => by
  have := hm.ev x
  rw [h] at this
  exact this.sl_s.mono fun _ _ _ => trivial
theorem BArg.sc (h : evV t x = some v) : BArg t st x (.sc v) := fun F ρ w0 w a hs hm => by
  rw [hm.val h]; exact .sc v
theorem BArg.raw (q : Nat) (h : evV t x = some v) (hq : st[q]? = some ⟨G, .obj (RawP M)⟩) (hr : RawS M v xv) : BArg t st x xv := fun F ρ w0 w a hs hm => by
  rw [hm.val h]; exact hr.rep hs hq
theorem BArg.ow {k g el sz : Nat} {xs : List (List AV)} (h : evA t x = .ow k g) (hk : st[k]? = some ⟨g, .own el sz xs⟩) : BArg t st x (.sl xs) := fun F ρ w0 w a hs hm => by
  obtain ⟨_, _, h3⟩ := hs.settle hk (xs := xs) rfl
  have := hm.ev x
  rw [h] at this
  exact (h3 _ this).sl_s.mono fun _ _ _ => trivial
theorem call_b {f : FuncId} {xs : Array Operand} {Ts : Array TypeId} {ys : List AV} {R : RS → Prop} (hC : AC P f ys R) (ho : o.op = .call { callee := .value (.func f), args := xs, argTypes := Ts }) (hok : callOk P f = true) (hlen : xs.size = ys.length) (hargs : ∀ (j : Nat) x y, xs[j]? = some x → ys[j]? = some y → BArg t st x y) (hR : ∀ r, R r → ∃ u, r = .s (.sc u) ∧ KK (.sc u) st) : AOpB P o t st KK := fun F ρ w0 w a hs hm next Q hn => by
  unfold Oper.wp
  rw [run_call ho hok]
  have hc := hC (fun _ => True) w (xs.map a.eval) (by simpa using hlen) (fun _ _ => trivial) (fun j v y hv hy => by
    rw [Array.getElem?_map] at hv
    cases hx : xs[j]? with
    | none => rw [hx] at hv; cases hv
    | some x =>
      rw [hx] at hv
      injection hv with hv
      subst hv
      exact hargs j x y hx hy F ρ w0 w a hs hm)
  refine Calls.mono hc fun e w' ⟨v, r, he, hr, hb, hRr⟩ => ?_
  subst he
  obtain ⟨u, rfl, hk⟩ := hR r hRr
  have hu : v = u := RepS.of_sc hr
  subst hu
  exact hn v w' ρ st _ (hs.grow hb) (Mv.below hb) (.sc v) hb hk
theorem op_call_b2 {f : FuncId} {Ts : Array TypeId} {y1 y2 : AV} {R : RS → Prop} (hC : AC P f [y1, y2] R) (ho : o.op = .call { callee := .value (.func f), args := #[x, y], argTypes := Ts }) (hok : callOk P f = true) (h1 : BArg t st x y1) (h2 : BArg t st y y2) (hR : ∀ r, R r → ∃ u, r = .s (.sc u) ∧ KK (.sc u) st) : AOpB P o t st KK :=
  call_b hC ho hok rfl (fun j a b ha hb => by
    match j with
    | 0 => simp at ha hb; subst ha hb; exact h1
    | 1 => simp at ha hb; subst ha hb; exact h2
    | j + 2 => simp at hb) hR
end
end Go.Proofs.YtpkjlmaphhileaaDoor
