/- A part of a proof. -/
import Derived.Below
import Derived.ChangeOld
import Derived.ChangeSame
import Derived.Deep.Fields
import Derived.Deep.Slices
import Derived.OpenShut
import Derived.ProofKit
import Derived.ShutString
import Derived.Test.YtlapcfnmmpbeeaaPT10
set_option linter.unusedSimpArgs false
set_option linter.unusedVariables false
namespace Go.Proofs.Ytlapcfnmmpbeeaa
open Go.RowKit Go.ChangeShapes Go.WideShapes Go.ChangeAt Go.Deep
def AnyB : Nat → Prop := fun _ => True
def RepC (w : World) (cs : List Value) (zs : List AV) : Prop := cs.length = zs.length ∧ (∀ u ∈ cs, u.oneCell' = true) ∧ ∀ (j : Nat) v x, cs[j]? = some v → zs[j]? = some x → RepS AnyB w v x
theorem RepC.one {w : World} {v : Value} {x : AV} (h1 : v.oneCell' = true) (h : RepS AnyB w v x) : RepC w [v] [x] := ⟨rfl, by simpa using h1, fun j u y hu hy => by
  cases j with
  | zero => simp at hu hy; subst hu hy; exact h
  | succ j => simp at hy⟩
theorem RepC.app {w : World} {c1 c2 : List Value} {a1 a2 : List AV} (h1 : RepC w c1 a1) (h2 : RepC w c2 a2) : RepC w (c1 ++ c2) (a1 ++ a2) := by
  refine ⟨by simp [h1.1, h2.1], fun u hu => (List.mem_append.1 hu).elim (h1.2.1 u) (h2.2.1 u), fun j v x hv hx => ?_⟩
  rcases Nat.lt_or_ge j c1.length with hj | hj
  · rw [List.getElem?_append_left hj] at hv
    rw [List.getElem?_append_left (by rw [← h1.1]; exact hj)] at hx
    exact h1.2.2 j v x hv hx
  rw [List.getElem?_append_right hj] at hv
  rw [List.getElem?_append_right (by rw [← h1.1]; exact hj), ← h1.1] at hx
  exact h2.2.2 _ v x hv hx
theorem RepC.ag {w : World} {vs : Array Value} {zs : List AV} (h : RepC w vs.toList zs) : RepS AnyB w (.agg vs) (.ag zs) :=
  .ag vs zs (by have := h.1; simpa using this) (fun u hu => h.2.1 u (by simpa using hu)) fun j v x hv hx => h.2.2 j v x (by simpa using hv) hx
theorem list_ofA {α : Type} (n : Nat) (p : Nat → α → Prop) (h : ∀ i, i < n → ∃ a, p i a) : ∃ l : List α, l.length = n ∧ ∀ i (hi : i < l.length), p i l[i] := by
  induction n with
  | zero => exact ⟨[], rfl, fun i hi => absurd hi (by simp)⟩
  | succ n ih =>
    obtain ⟨l, h1, h2⟩ := ih fun i hi => h i (by omega)
    obtain ⟨a, ha⟩ := h n (by omega)
    refine ⟨l ++ [a], by simp [h1], fun i hi => ?_⟩
    rcases Nat.lt_or_ge i l.length with h3 | h3
    · rw [List.getElem_append_left h3]; exact h2 i h3
    obtain rfl : i = l.length := by rw [List.length_append, List.length_singleton] at hi; omega
    rw [List.getElem_append_right (by omega)]
    simpa [h1] using ha
section
variable {H : Type} {enc : TypeId × Value → H} {P : Program} {W : World} {base : Nat} {sp : Nat → Bool} {held : Bool}
def OpT (enc : TypeId × Value → H) (P : Program) (W : World) (base : Nat) (sp : Nat → Bool) (held : Bool) (t : TypeId) {α : Type} (ok : α → Prop) (f : α → List AV) : Prop :=
  ∀ fuel cs x, DataW.trod enc P W base sp held fuel t cs = some x → ∃ d : α, ok d ∧ RepC W cs (f d)
theorem op_int {t : TypeId} {k : IntKind} (ht : P.underlying t = some (.int k)) : OpT enc P W base sp held t (fun n : Int => (Lit.int k n).wf = true) (fun n => [.sc (.int k n)]) := fun fuel cs x h => by
  obtain ⟨n, e, _, hw⟩ := DataW.trod_int ht h
  subst e
  exact ⟨n, hw, .one rfl (.sc _)⟩
theorem op_bool {t : TypeId} (ht : P.underlying t = some .bool) : OpT enc P W base sp held t (fun _ : Bool => True) (fun b => [.sc (.bool b)]) := fun fuel cs x h => by
  obtain ⟨b, e, _⟩ := DataW.trod_bool ht h
  subst e
  exact ⟨b, trivial, .one rfl (.sc _)⟩
theorem op_str {t : TypeId} (ht : P.underlying t = some .string) : OpT enc P W base sp held t (fun s : Bytes => s.length ≤ maxLen) (fun s => [AS s]) := fun fuel cs x h => by
  obtain ⟨s, e, hx⟩ := DataW.trod_string ht h
  subst e
  have e : Value.string s = sv s.data.toList := by simp [sv]
  rw [e]
  refine ⟨s.data.toList, ?_, .one rfl (.sc _)⟩
  have hsz : s.data.toList.length = s.size := by rw [Array.length_toList]; rfl
  show s.data.toList.length ≤ maxLen
  rw [hsz]
  exact hx.2
theorem op_slice {t e : TypeId} {α : Type} {ok : α → Prop} {f : α → List AV} {sz : Nat} (ht : P.underlying t = some (.slice e)) (hc : P.cellsOf e = sz) (h0 : 0 < sz) (hf : ∀ d, (f d).length = sz) (he : OpT enc P W base sp held e ok f) : OpT enc P W base sp held t (fun l : List α => l.length ≤ maxLen ∧ ∀ d ∈ l, ok d) (fun l => [.sl (l.map f)]) := fun fuel cs x h => by
  rcases open_slice ht h with ⟨hcs, _⟩ | ⟨a, len, cap, m, n, D, Pl, hcs, hb, hl, hm, hmm, hx, hi⟩
  · subst hcs
    exact ⟨[], ⟨by unfold maxLen; simp, by simp⟩, .one rfl (.sl0 _ _ (by unfold maxLen; omega))⟩
  subst hcs
  have hlm : len ≤ m := by rw [hmm]; split <;> omega
  obtain ⟨l, hll, hp⟩ := list_ofA len (fun i d => ok d ∧ ∃ cs', W.cells? base (a.add (i * P.cellsOf e)) (P.cellsOf e) = some cs' ∧ RepC W cs' (f d)) fun i him => by
    obtain ⟨cs', h1, h2⟩ := hi i (by omega)
    obtain ⟨d, hd, hr⟩ := he n cs' _ h2
    exact ⟨d, hd, cs', h1, hr⟩
  refine ⟨l, ⟨by omega, fun d hd => ?_⟩, .one rfl ?_⟩
  · obtain ⟨i, hi', rfl⟩ := List.getElem_of_mem hd
    exact (hp i hi').1
  rcases Nat.eq_zero_or_pos len with hz | hz
  · subst hz
    have : l = [] := List.eq_nil_of_length_eq_zero hll
    subst this
    exact .sl0 _ _ (by omega)
  have key : ∀ i, i < len → ∃ cs', cs'.length = sz ∧ (∀ j v, cs'[j]? = some v → W.cell? (a.add (i * sz + j)) = some v) ∧ ∀ hi' : i < l.length, RepC W cs' (f l[i]) := fun i hil => by
    obtain ⟨_, cs', h1, h2⟩ := hp i (by omega)
    obtain ⟨_, hcl, hat⟩ := World.cells?_some h1
    rw [hc] at hcl hat
    refine ⟨cs', hcl, fun j v hv => ?_, fun _ => h2⟩
    have := hat j (by rw [← hcl]; exact (List.getElem?_eq_some_iff.1 hv).1)
    rw [Go.Deep.add_add] at this
    rw [this, hv]
  obtain ⟨CS, hC1, hC2⟩ := list_ofA len (fun i cs' => cs'.length = sz ∧ (∀ j v, cs'[j]? = some v → W.cell? (a.add (i * sz + j)) = some v) ∧ ∀ hi' : i < l.length, RepC W cs' (f l[i])) key
  obtain ⟨ab, ao, as_⟩ := a
  have hcell0 : W.cell? ((⟨ab, ao, as_⟩ : Addr).add (0 * sz + 0)) = some ((CS[0]'(by omega))[0]'(by have := (hC2 0 (by omega)).1; omega)) := (hC2 0 (by omega)).2.1 0 _ (List.getElem?_eq_getElem _)
  have hs : as_ = none := by simpa [Addr.add] using World.cell?_spot hcell0
  subst hs
  refine .sl1 ab ao len cap sz (fun i j => if h : i < CS.length then (if h2 : j < (CS[i]).length then (CS[i])[j] else .bool false) else .bool false) (l.map f) (by simp [hll]) hz hl hm h0 trivial (fun i cs hcs => ?_) (fun i j hi' hj => ?_) (fun i j => ?_) (fun i j cs y hcs hy => ?_)
  · rw [List.getElem?_map] at hcs
    cases hli : l[i]? with
    | none => rw [hli] at hcs; cases hcs
    | some d => rw [hli] at hcs; simp at hcs; subst hcs; exact hf d
  · have h1 := hC2 i (by omega)
    have hj' : j < (CS[i]'(by omega)).length := by rw [h1.1]; exact hj
    rw [dif_pos (by omega), dif_pos hj']
    have := h1.2.1 j _ (List.getElem?_eq_getElem hj')
    rw [Addr.add_mid] at this
    exact this
  · split
    · split
      · rename_i h1 h2
        have h3 := (hC2 i h1).2.2 (by omega)
        exact h3.2.1 _ (List.getElem_mem _)
      rfl
    rfl
  rw [List.getElem?_map] at hcs
  cases hli : l[i]? with
  | none => rw [hli] at hcs; cases hcs
  | some d =>
    rw [hli] at hcs
    simp at hcs
    subst hcs
    have hil := (List.getElem?_eq_some_iff.1 hli).1
    have hld := (List.getElem?_eq_some_iff.1 hli).2
    have h3 := (hC2 i (by omega)).2.2 hil
    rw [hld] at h3
    have hj' : j < (CS[i]'(by omega)).length := by rw [h3.1]; exact (List.getElem?_eq_some_iff.1 hy).1
    rw [dif_pos (by omega), dif_pos hj']
    exact h3.2.2 j _ y (List.getElem?_eq_getElem hj') hy
theorem op_fields {t : TypeId} {fs : Array Field} {fuel : Nat} {cs : List Value} {x : DataW H × List MemPlace} (ht : P.underlying t = some (.struct fs)) (h : DataW.trod enc P W base sp held fuel t cs = some x) :
    cs.length = P.cellsOf t ∧ ∀ (i : Nat) (f : Field) (c : Nat), fs[i]? = some f → P.cellsOf f.type = c → ∃ n y, DataW.trod enc P W base sp held n f.type ((cs.drop f.offset).take c) = some y := by
  obtain ⟨xs, n, _, _, hl, hxl, hf⟩ := DataW.trod_struct ht h
  refine ⟨hl, fun i f c hi hc => ?_⟩
  have h1 := hf i f hi
  have hlt : i < xs.length := by rw [hxl]; exact (Array.getElem?_eq_some_iff.1 hi).1
  rw [List.getElem?_eq_getElem hlt, hc] at h1
  exact ⟨n, _, h1⟩
theorem OpT.agg {t : TypeId} {α : Type} {ok : α → Prop} {f : α → List AV} {vs : Array Value} {d : DataW H} {p : List MemPlace} (ho : OpT enc P W base sp held t ok f) (h : DataW.Trod enc P W base sp held t (.agg vs) d p) : ∃ a, ok a ∧ RepS AnyB W (.agg vs) (.ag (f a)) := by
  obtain ⟨fuel, hf⟩ := h
  obtain ⟨a, h1, h2⟩ := ho fuel _ _ hf
  exact ⟨a, h1, h2.ag⟩
end
theorem AC.law {P : Program} {f : FuncId} {args : List AV} (h : AC P f args (fun r => r = .s (AB true))) {w : World} {vs : List Value} (hl : vs.length = args.length) (hr : ∀ (j : Nat) v x, vs[j]? = some v → args[j]? = some x → RepS AnyB w v x) : Calls P f vs.toArray w fun e w' => e = .returned (.bool true) ∧ Below w.heap.size w w' :=
  (h AnyB w vs.toArray (by simpa using hl) (fun _ _ => trivial) (fun j v x hv hx => hr j v x (by simpa using hv) hx)).mono fun e w' ⟨v, r, he, hv, hb, hR⟩ => by
    subst hR he
    refine ⟨?_, hb⟩
    cases hv
    rfl
theorem rep_nil {w : World} : ∀ (j : Nat) v x, ([] : List Value)[j]? = some v → ([] : List AV)[j]? = some x → RepS AnyB w v x := fun j v x h => by simp at h
theorem rep_cons {w : World} {v0 : Value} {x0 : AV} {vs : List Value} {xs : List AV} (h0 : RepS AnyB w v0 x0) (h : ∀ (j : Nat) v x, vs[j]? = some v → xs[j]? = some x → RepS AnyB w v x) : ∀ (j : Nat) v x, (v0 :: vs)[j]? = some v → (x0 :: xs)[j]? = some x → RepS AnyB w v x := fun j v x hv hx => by
  cases j with
  | zero => simp at hv hx; subst hv hx; exact h0
  | succ j => exact h j v x (by simpa using hv) (by simpa using hx)
set_option maxRecDepth 100000
open Go.RowKit Go.ChangeShapes Go.WideShapes Go.ChangeAt Go.Deep
def okRef (r : RefD) : Prop := (Lit.int .i64 r.scope).wf = true ∧ r.group.length ≤ maxLen ∧ r.name.length ≤ maxLen
def okFld (f : FldD) : Prop := okRef f.at_ ∧ (Lit.int .i64 f.kind).wf = true ∧ f.dflt.length ≤ maxLen ∧ (f.cases.length ≤ maxLen ∧ ∀ c ∈ f.cases, c.length ≤ maxLen) ∧ (Lit.int .i64 f.worth).wf = true
section
variable {H : Type} {enc : TypeId × Value → H} {W : World} {base b0 : Nat} {sp : Nat → Bool} {held : Bool} {r : Reach}
theorem op_Ref : OpT enc Try.prog W base sp held 55 okRef RefD.cs := fun fuel cs x h => by
  obtain ⟨hl, hf⟩ := op_fields Try.underlying55 h
  have hl : cs.length = 3 := hl.trans (by kernel_rfl)
  match cs, hl with
  | [c0, c1, c2], _ =>
    obtain ⟨n0, y0, g0⟩ := hf 0 _ 1 rfl (by kernel_rfl)
    obtain ⟨n1, y1, g1⟩ := hf 1 _ 1 rfl (by kernel_rfl)
    obtain ⟨n2, y2, g2⟩ := hf 2 _ 1 rfl (by kernel_rfl)
    obtain ⟨d0, o0, r0⟩ := op_int Try.underlying3 _ _ _ g0
    obtain ⟨d1, o1, r1⟩ := op_str Try.underlying9 _ _ _ g1
    obtain ⟨d2, o2, r2⟩ := op_str Try.underlying9 _ _ _ g2
    exact ⟨⟨d0, d1, d2⟩, ⟨o0, o1, o2⟩, (r0.app (r1.app r2))⟩
theorem op_texts : OpT enc Try.prog W base sp held 56 (fun l : List Bytes => l.length ≤ maxLen ∧ ∀ c ∈ l, c.length ≤ maxLen) (fun l => [.sl (csS l)]) := op_slice (sz := 1) Try.underlying56 (by kernel_rfl) (by decide) (fun _ => rfl) (op_str Try.underlying9)
theorem op_Fld : OpT enc Try.prog W base sp held 58 okFld FldD.cs := fun fuel cs x h => by
  obtain ⟨hl, hf⟩ := op_fields Try.underlying58 h
  have hl : cs.length = 7 := hl.trans (by kernel_rfl)
  match cs, hl with
  | [c0, c1, c2, c3, c4, c5, c6], _ =>
    obtain ⟨n0, y0, g0⟩ := hf 0 _ 3 rfl (by kernel_rfl)
    obtain ⟨n1, y1, g1⟩ := hf 1 _ 1 rfl (by kernel_rfl)
    obtain ⟨n2, y2, g2⟩ := hf 2 _ 1 rfl (by kernel_rfl)
    obtain ⟨n3, y3, g3⟩ := hf 3 _ 1 rfl (by kernel_rfl)
    obtain ⟨n4, y4, g4⟩ := hf 4 _ 1 rfl (by kernel_rfl)
    obtain ⟨d0, o0, r0⟩ := op_Ref _ _ _ g0
    obtain ⟨d1, o1, r1⟩ := op_int Try.underlying3 _ _ _ g1
    obtain ⟨d2, o2, r2⟩ := op_str Try.underlying9 _ _ _ g2
    obtain ⟨d3, o3, r3⟩ := op_texts _ _ _ g3
    obtain ⟨d4, o4, r4⟩ := op_int Try.underlying2 _ _ _ g4
    exact ⟨⟨d0, d1, d2, d3, d4⟩, ⟨o0, o1, o2, o3, o4⟩, (r0.app (r1.app (r2.app (r3.app r4))))⟩
end
open Go.RowKit
section
variable {P : Program} {c d : Code} {Q : APost} {t : List AV} {st : List TK}
theorem Sk.go {tscr : List Nat} {s' b : List TK} (hsk : Sk tscr 0 s' b) {cc : Code} {QQ : APost} {tt : List AV} (h : ∀ gs, AW P cc QQ tt (offs gs b tscr)) : AW P cc QQ tt s' := by
  obtain ⟨h1, h2⟩ := hsk.get
  let gs : Nat → Nat := fun j => ((s'[j]?).map TK.g).getD 0
  refine AW.offs tscr gs (fun j tk hj => by simp [gs, hj]) ?_
  have e : Go.Proofs.Ytlapcfnmmpbeeaa.offs gs s' tscr = Go.Proofs.Ytlapcfnmmpbeeaa.offs gs b tscr := by
    apply List.ext_getElem?
    intro j; rw [(offs_get gs tscr s' j).2, (offs_get gs tscr _ j).2, h1]
    rcases h2 j with h3 | h3
    · rw [Nat.zero_add] at h3
      by_cases hj : j < b.length
      · simp only [h3, hj, and_self, if_true]
      simp only [h3, hj, and_false, if_false]
      rw [List.getElem?_eq_none (by omega), List.getElem?_eq_none (by omega)]
    rw [h3]
  rw [e]
  exact h gs
theorem AW.join {ι : Type} (scr : List Nat) (up : ι → List (Nat × AV)) (tscr : List Nat) (tup : ι → List (Nat × TK)) (J : ι → Prop)
    (h1 : AW P c (thenA (fun t' st' => ∃ k, J k ∧ Wk t' (upds (anys t scr) (up k)) ∧ Sk tscr 0 st' (upds st (tup k))) Q) t st)
    (h2 : ∀ k gs, J k → AW P d Q (upds (anys t scr) (up k)) (Go.Proofs.Ytlapcfnmmpbeeaa.offs gs (upds st (tup k)) tscr)) : AW P (.seq c d) Q t st :=
  AW.seq (h1.mono fun e t' st' h => by
    cases e with
    | normal => obtain ⟨k, hJ, hw, hs⟩ := h; exact AW.wk hw (hs.go fun gs => h2 k gs hJ)
    | _ => exact h)
end
open Go.RowKit
section
variable {P : Program} {o : Oper} {t : List AV} {st : List TK}
theorem run_callv {f : FuncId} {xs : Array Operand} {Ts : Array TypeId} {x : Operand} {a : Act} {w : World} (ho : o.op = .call { callee := .value x, args := xs, argTypes := Ts }) (hx : a.eval x = .func (.func f) #[] #[]) (hok : callOk P f = true) : (execOp a.eval o).run P w = .ok (.enter f (xs.map a.eval)) w := by
  unfold callOk at hok
  cases hf : P.funcs[f]? with
  | none => rw [hf] at hok; cases hok
  | some fn =>
    rw [hf] at hok
    cases hb : fn.body with
    | none => simp [hb] at hok
    | some b =>
      simp [hb] at hok
      simp only [execOp, ho, resolve, Deferred.ofValue, hx, Sem.run_bind, Sem.run_pure, Result.andThen_ok, invoke, callFunc, Array.empty_append, Array.append_empty]
      simp [hf, hok, hb]
theorem op_callv {K : AV → List TK → Prop} {f : FuncId} {xs : Array Operand} {Ts : Array TypeId} {x : Operand} {ys : List AV} {R : RS → Prop} (hC : AC P f ys R) (ho : o.op = .call { callee := .value x, args := xs, argTypes := Ts }) (hx : evV t x = some (.func (.func f) #[] #[])) (hok : callOk P f = true) (hargs : argsA t xs.toList = some ys) (kt : Option Nat) (h : ∀ r, R r → KR K st kt r) : AOpB P o t st K := fun F ρ w0 w a hs hm next Q hn => by
  have h0 := op_call (o := { o with op := .call { callee := .value (.func f), args := xs, argTypes := Ts } }) hC rfl hok hargs kt h F ρ w0 w a hs hm next Q hn
  unfold Oper.wp at h0 ⊢
  rw [run_call rfl hok] at h0
  rw [run_callv ho (hm.val hx) hok]
  exact h0
end
end Go.Proofs.Ytlapcfnmmpbeeaa
