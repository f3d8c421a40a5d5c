/- Texts of the proof of talkRight_holds, put together by a program: Bor Lnt. -/
import Derived.Test.YtlapcfnmmpbeeaaGreatPR42
set_option linter.unusedSimpArgs false
set_option linter.unusedVariables false
namespace Go.Proofs.YtlapcfnmmpbeeaaGreat
set_option maxRecDepth 100000
open Go.RowKit
inductive RawS (M : RM) : Value → AV → Prop
  | sc (v : Value) : RawS M v (.sc v)
  | sl0 (A : Option Addr) (c : Nat) (hc : c ≤ maxLen) : RawS M (.slice A 0 c) (.sl [])
  | sl1 (b n c sz : Nat) (T : TypeId) (vs : Array Value) (xs : List (List AV)) (U : Nat → Nat → Value) (hn : xs.length = n) (h0 : 0 < n) (hnc : n ≤ c) (hc : c ≤ maxLen) (hsz : 0 < sz) (hb : M b = some (T, vs)) (hl : ∀ (i : Nat) (cs : List AV), xs[i]? = some cs → cs.length = sz) (hv : ∀ i j, i < n → j < sz → vs[i * sz + j]? = some (U i j)) (h1 : ∀ i j, (U i j).oneCell' = true) (hr : ∀ (i j : Nat) (cs : List AV) x, xs[i]? = some cs → cs[j]? = some x → RawS M (U i j) x) : RawS M (.slice (some ⟨b, 0, none⟩) n c) (.sl xs)
section
variable {P : Program} {o : Oper} {KK : AV → List TK → Prop} {t : List AV} {st : List TK} {x y z : Operand} {G q : Nat} {M : RM} {F : Nat → Prop} {ρ : Loc} {w0 : Bs} {w : World} {v : Value} {xv yv zv : AV}
theorem RawS.rep (h : RawS M v xv) (hs : St F ρ st w0 w) (hq : st[q]? = some ⟨G, .obj (RawP M)⟩) : RepS (fun _ => True) w v xv := by
  induction h with
  | sc v => exact .sc v
  | sl0 A c hc => exact .sl0 A c hc
  | sl1 b n c sz T vs xs U hn h0 hnc hc hsz hb hl hv h1 hr ih =>
    have hp := (hs.obj q G _ hq).2 b T vs hb
    refine .sl1 b 0 n c sz U xs hn h0 hnc hc hsz trivial hl (fun i j hi hj => ?_) h1 ih; rw [Nat.zero_add, cell_of_row _ _ _ _ _ _ hp, hv i j hi hj]
def BArg (t : List AV) (st : List TK) (x : Operand) (z : AV) : Prop := ∀ F ρ w0 w a, St F ρ st w0 w → Fm F ρ st w a t → RepS (fun _ => True) w (a.eval x) z
theorem call_b {f : FuncId} {xs : Array Operand} {Ts : Array TypeId} {ys : List AV} {R : RS → Prop} (hC : AC P f ys R) (ho : o.op = .call { callee := .value (.func f), args := xs, argTypes := Ts }) (hok : callOk P f = true) (hlen : xs.size = ys.length) (hargs : ∀ (j : Nat) x y, xs[j]? = some x → ys[j]? = some y → BArg t st x y) (hR : ∀ r, R r → ∃ u, r = .s (.sc u) ∧ KK (.sc u) st) : AOpB P o t st KK := fun F ρ w0 w a hs hm next Q hn => by
  unfold Oper.wp
  rw [run_call ho hok]
  have hc := hC (fun _ => True) w (xs.map a.eval) (by simpa using hlen) (fun _ _ => trivial) (fun j v y hv hy => by
    rw [Array.getElem?_map] at hv
    cases hx : xs[j]? with
    | none => rw [hx] at hv; cases hv
    | some x =>
      rw [hx] at hv
      injection hv with hv
      subst hv
      exact hargs j x y hx hy F ρ w0 w a hs hm)
  refine Calls.mono hc fun e w' ⟨v, r, he, hr, hb, hRr⟩ => ?_; subst he; obtain ⟨u, rfl, hk⟩ := hR r hRr
  have hu : v = u := RepS.of_sc hr
  subst hu
  exact hn v w' ρ st _ (hs.grow hb) (Mv.below hb) (.sc v) hb hk
theorem op_call_b2 {f : FuncId} {Ts : Array TypeId} {y1 y2 : AV} {R : RS → Prop} (hC : AC P f [y1, y2] R) (ho : o.op = .call { callee := .value (.func f), args := #[x, y], argTypes := Ts }) (hok : callOk P f = true) (h1 : BArg t st x y1) (h2 : BArg t st y y2) (hR : ∀ r, R r → ∃ u, r = .s (.sc u) ∧ KK (.sc u) st) : AOpB P o t st KK :=
  call_b hC ho hok rfl (fun j a b ha hb => by
    match j with
    | 0 => simp at ha hb; subst ha hb; exact h1
    | 1 => simp at ha hb; subst ha hb; exact h2
    | j + 2 => simp at hb) hR
end
end Go.Proofs.YtlapcfnmmpbeeaaGreat
namespace Go.Proofs.YtlapcfnmmpbeeaaGreat
set_option maxRecDepth 100000
open Go.RowKit
section
variable {P : Program} {o : Oper} {t : List AV} {st : List TK} {x : Operand} {G q : Nat} {M : RM}
def LentZ (st : List TK) (z y : AV) : Prop := ∀ F ρ w0 w u, St F ρ st w0 w → Rep F ρ st w u z → RepS (fun _ => True) w u y
theorem LentZ.sc (v : Value) : LentZ st (.sc v) (.sc v) := fun F ρ w0 w u hs h => by
  rw [h.of_sc]; exact .sc v
theorem LentZ.sl (xs : List (List AV)) : LentZ st (.sl xs) (.sl xs) := fun F ρ w0 w u hs h => h.sl_s.mono fun _ _ _ => trivial
theorem LentZ.raw (q : Nat) {v : Value} {y : AV} (hq : st[q]? = some ⟨G, .obj (RawP M)⟩) (hr : RawS M v y) : LentZ st (.sc v) y := fun F ρ w0 w u hs h => by
  rw [h.of_sc]; exact hr.rep hs hq
inductive LentL (st : List TK) : List AV → List AV → Prop
  | nil : LentL st [] []
  | cons {z y : AV} {l m : List AV} (h : LentZ st z y) (t : LentL st l m) : LentL st (z :: l) (y :: m)
theorem LentL.len {l m : List AV} (h : LentL st l m) : l.length = m.length := by
  induction h with
  | nil => rfl
  | cons _ _ ih => simp [ih]
theorem LentL.get {l m : List AV} (h : LentL st l m) : ∀ {j : Nat} {y : AV}, m[j]? = some y → ∃ z, l[j]? = some z ∧ LentZ st z y := by
  induction h with
  | nil => intro j y hj; cases hj
  | cons h _ ih =>
    intro j y hj
    cases j with
    | zero => injection hj with hj; subst hj; exact ⟨_, rfl, h⟩
    | succ j => exact ih hj
theorem BArg.ag {zs ys : List AV} (h : evA t x = .ag zs) (hz : LentL st zs ys) : BArg t st x (.ag ys) := fun F ρ w0 w a hs hm => by
  have h0 := hm.ev x
  rw [h] at h0
  generalize a.eval x = v at h0
  have fin : ∀ vs : Array Value, vs.size = zs.length → (∀ v ∈ vs, v.oneCell' = true) → (∀ (j : Nat) v z, vs[j]? = some v → zs[j]? = some z → Rep F ρ st w v z) → RepS (fun _ => True) w (.agg vs) (.ag ys) := fun vs h1 h2 h3 =>
    .ag vs ys (h1.trans hz.len) h2 fun j v y hv hy => by
      obtain ⟨z, k1, k2⟩ := hz.get hy
      exact k2 F ρ w0 w v hs (h3 j v z hv k1)
  cases h0 with
  | s h' =>
    cases h' with
    | ag vs _ h1 h2 h3 => exact fin vs h1 h2 fun j v z hv hz' => .s (h3 j v z hv hz')
  | ag vs _ h1 h2 h3 => exact fin vs h1 h2 h3
end
end Go.Proofs.YtlapcfnmmpbeeaaGreat
