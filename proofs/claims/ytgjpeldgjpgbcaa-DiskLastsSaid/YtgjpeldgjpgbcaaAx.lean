/- The operations on abstract states, on: slices written out. No conditions. -/
import Derived.Test.YtgjpeldgjpgbcaaAu
namespace Go.Proofs.Ytgjpeldgjpgbcaa
set_option linter.unusedSimpArgs false
set_option linter.unusedVariables false
open Go.RowKit

theorem flat_get {sz : Nat} : ∀ (xs : List (List AV)), (∀ cs ∈ xs, cs.length = sz) → ∀ (i j : Nat) (cs : List AV) z, xs[i]? = some cs → cs[j]? = some z → xs.flatten[i * sz + j]? = some z
  | [], _, i, j, cs, z, h, _ => by simp at h
  | x :: xs, hl, 0, j, cs, z, h, hz => by
    simp at h
    subst h
    rw [Nat.zero_mul, Nat.zero_add, List.flatten_cons, List.getElem?_append_left (List.getElem?_eq_some_iff.1 hz).1]
    exact hz
  | x :: xs, hl, i + 1, j, cs, z, h, hz => by
    have hx := hl x List.mem_cons_self
    rw [List.flatten_cons, List.getElem?_append_right (by rw [hx, Nat.add_mul, Nat.one_mul]; omega), hx, show (i + 1) * sz + j - sz = i * sz + j by rw [Nat.add_mul, Nat.one_mul]; omega]
    exact flat_get xs (fun c hc => hl c (List.mem_cons_of_mem _ hc)) i j cs z (by simpa using h) hz
theorem flat_len {sz : Nat} : ∀ (xs : List (List AV)), (∀ cs ∈ xs, cs.length = sz) → xs.flatten.length = xs.length * sz
  | [], _ => by simp
  | x :: xs, hl => by
    rw [List.flatten_cons, List.length_append, hl x List.mem_cons_self, flat_len xs (fun c hc => hl c (List.mem_cons_of_mem _ hc)), List.length_cons, Nat.add_mul, Nat.one_mul, Nat.add_comm]
/-- All settled. -/
def setd : List (List AV) → Option (List (List AV))
  | [] => some []
  | cs :: xs => match args1 cs, setd xs with | some ys, some zs => some (ys :: zs) | _, _ => none
theorem setd_get : ∀ (xs ys : List (List AV)), setd xs = some ys → xs.length = ys.length ∧ ∀ (i : Nat) (c d : List AV), xs[i]? = some c → ys[i]? = some d → args1 c = some d
  | [], ys, h => by simp [setd] at h; subst h; simp
  | c :: xs, ys, h => by
    simp only [setd] at h
    cases h1 : args1 c with
    | none => rw [h1] at h; cases h
    | some d =>
      cases h2 : setd xs with
      | none => rw [h1, h2] at h; cases h
      | some zs =>
        rw [h1, h2] at h
        injection h with h
        subst h
        obtain ⟨h3, h4⟩ := setd_get xs zs h2
        refine ⟨by simp [h3], fun i c' d' hc hd => ?_⟩
        cases i with
        | zero => simp at hc hd; subst hc hd; exact h1
        | succ i => exact h4 i c' d' (by simpa using hc) (by simpa using hd)

section
variable {P : Program} {o : Oper} {t : List AV} {st : List TK} {x y s : Operand} {K : AV → List TK → Prop}
theorem bslice_run {T e sz by_ n : Nat} {parts : Array (Nat × Operand)} {qs : List (Nat × List AV)} {xs ys : List (List AV)} {zl : List Value} (ho : o.op = .buildSlice T n parts) (hT : apI P T = some (e, sz, by_)) (hz : zeroC P e = some zl) (hq : partsA t st parts.toList = some qs) (hf : fillA (fun i => some (i * sz, sz)) (List.replicate (n * sz) .any) qs = some xs.flatten)
    (hn : xs.length = n) (hl : ∀ cs ∈ xs, cs.length = sz) (hsd : setd xs = some ys) (hsz : n * sz ≤ 16777216) {F : Nat → Prop} {ρ : Loc} {w0 : Bs} {w : World} {a : Act} (hst : St F ρ st w0 w) (hm : Fm F ρ st w a t) :
    ∃ C : Array Value, (execOp a.eval o).run P w = .ok (.value (.slice (some ⟨w.heap.size, 0, none⟩) n n)) (w.alloc (.cells C e)) ∧ C.size = n * sz ∧ (∀ v ∈ C, v.oneCell' = true) ∧ ys.length = n ∧ (∀ cs ∈ ys, cs.length = sz) ∧ ∀ (i j : Nat) (cs : List AV) v z, ys[i]? = some cs → cs[j]? = some z → C[i * sz + j]? = some v → RepS (Free F ρ st) w v z := by
  obtain ⟨hu, hpos, i, zv, hi, hz0, hz1, hz2, hzs⟩ := ap_parts hT
  obtain ⟨h1, h2⟩ := parts_rep hm parts.toList qs hq
  have hone : ∀ v ∈ zv.cells, v.oneCell' = true := by
    unfold zeroC at hz
    rw [hi] at hz
    simp [hz0] at hz
    intro v hv
    obtain ⟨j, hj, rfl⟩ := Array.mem_iff_getElem.1 hv
    exact hz.1 j hj
  let zero : Array Value := if n * sz = 0 then #[] else zv.cells
  let base : Array Value := (Array.range (n * sz)).map (zero[· % zero.size]!)
  have hbs : base.size = n * sz := by simp [base]
  have hb1 : ∀ v ∈ base, v.oneCell' = true := by
    intro v hv
    simp [base] at hv
    obtain ⟨q, hq1, rfl⟩ := hv
    have h0 : ¬ n * sz = 0 := by omega
    have hlt : q % zv.cells.size < zv.cells.size := Nat.mod_lt _ (by omega)
    have : zero[q % zero.size]! = zv.cells[q % zv.cells.size] := by simp only [zero, if_neg h0]; rw [getElem!_pos zv.cells _ hlt]
    rw [this]
    exact hone _ (Array.getElem_mem hlt)
  obtain ⟨C, g1, g2, g3, g4⟩ := fill_rel (R := Rep F ρ st w) (fun i => some (i * sz, sz)) (parts.toList.map fun p => (p.1, a.eval p.2)) qs base (List.replicate (n * sz) .any) xs.flatten h1 h2 (by rw [hbs, List.length_replicate]) hb1 (fun j v x hv hx => by rw [List.eq_of_mem_replicate (List.mem_of_getElem? hx)]; exact .any v) hf
  obtain ⟨s1, s2⟩ := setd_get xs ys hsd
  have back : ∀ (i : Nat) (d : List AV), ys[i]? = some d → ∃ c, xs[i]? = some c ∧ args1 c = some d := fun i d hd => by
    have hi : i < xs.length := by rw [s1]; exact (List.getElem?_eq_some_iff.1 hd).1
    exact ⟨xs[i], List.getElem?_eq_getElem hi, s2 i _ d (List.getElem?_eq_getElem hi) hd⟩
  refine ⟨C, ?_, by rw [g2, flat_len xs hl, hn], g3, by rw [← s1, hn], fun d hd => ?_, fun i j cs v z hi hj hv => ?_⟩
  · have e1 : (parts.map fun (i, x) => (i, a.eval x)).toList = parts.toList.map fun p => (p.1, a.eval p.2) := by simp
    simp only [execOp, ho, Instr.buildSlice, Sem.run_bind, run_underlying hu, Result.andThen_ok, sizeOf, typeInfo, run_program, hi, Sem.run_pure, hz1]
    rw [if_neg (by omega)]
    simp only [Sem.run_pure, Result.andThen_ok, Sem.run_bind, e1]
    by_cases h0 : n * sz = 0
    · have g1' : Instr.fill (fun i => some (i * sz, sz)) (Array.map (fun x => (#[] : Array Value)[x % (#[] : Array Value).size]!) (Array.range (n * sz))) (List.map (fun p => (p.fst, a.eval p.snd)) parts.toList) = some C := by
        have := g1
        simp only [base, zero, if_pos h0] at this
        exact this
      rw [if_pos h0]
      simp only [Sem.run_bind, Sem.run_pure, Result.andThen_ok, g1', newRow, newObj]
      rfl
    · have g1' : Instr.fill (fun i => some (i * sz, sz)) (Array.map (fun x => zv.cells[x % zv.cells.size]!) (Array.range (n * sz))) (List.map (fun p => (p.fst, a.eval p.snd)) parts.toList) = some C := by
        have := g1
        simp only [base, zero, if_neg h0] at this
        exact this
      rw [if_neg h0]
      simp only [Sem.run_bind, Sem.run_pure, Result.andThen_ok, zeroValue, typeInfo, run_program, hi, hz0, g1', newRow, newObj]
      rfl
  · obtain ⟨i, hi, rfl⟩ := List.getElem_of_mem hd
    obtain ⟨c, hc, ha⟩ := back i _ (List.getElem?_eq_getElem hi)
    rw [← (args1_get c _ ha).1]
    exact hl c (List.mem_of_getElem? hc)
  · obtain ⟨c, hc, ha⟩ := back i cs hi
    obtain ⟨a1, a2⟩ := args1_get c cs ha
    have hj' : j < c.length := by rw [a1]; exact (List.getElem?_eq_some_iff.1 hj).1
    have hz' := flat_get xs hl i j c c[j] hc (List.getElem?_eq_getElem hj')
    exact arg1_rep (g4 _ v _ hv hz') (a2 j _ z (List.getElem?_eq_getElem hj') hj)
theorem bslice_own {n sz e : Nat} {xs : List (List AV)} {C : Array Value} {F : Nat → Prop} {ρ : Loc} {w0 : Bs} {w : World} (hst : St F ρ st w0 w) (hpos : 0 < sz) (hn : xs.length = n) (hl : ∀ cs ∈ xs, cs.length = sz) (hsz : n * sz ≤ 16777216) (h1 : C.size = n * sz) (h2 : ∀ v ∈ C, v.oneCell' = true) (h3 : ∀ (i j : Nat) (cs : List AV) v z, xs[i]? = some cs → cs[j]? = some z → C[i * sz + j]? = some v → RepS (Free F ρ st) w v z) :
    RepO (Free F ρ st) w.heap.size (w.alloc (.cells C e)) w.heap.size n e sz xs := by
  have hle : n ≤ n * sz := Nat.le_mul_of_pos_right _ hpos
  have := World.ownsRow_lit (base := w.heap.size) (e := e) (size := sz) w C n (Nat.le_refl _) (by unfold maxLen; omega) h1
  refine ⟨C.toList, by rw [hn]; exact this, hpos, fun v hv => h2 v (by simpa using hv), fun i cs hc => hl cs (List.mem_of_getElem? hc), fun i j cs v z hi hj hv => ?_⟩
  exact (h3 i j cs v z hi hj (by simpa using hv)).mv fun b ob hf ho => ⟨⟨hf, by have := (Array.getElem?_eq_some_iff.1 ho).1; omega⟩, (Below.heap_alloc w _ b (Array.getElem?_eq_some_iff.1 ho).1).trans ho⟩
theorem op_bslice {T e sz by_ n : Nat} {parts : Array (Nat × Operand)} {qs : List (Nat × List AV)} (xs : List (List AV)) {ys : List (List AV)} {zl : List Value} (ho : o.op = .buildSlice T n parts) (hT : apI P T = some (e, sz, by_)) (hz : zeroC P e = some zl) (hq : partsA t st parts.toList = some qs) (hf : fillA (fun i => some (i * sz, sz)) (List.replicate (n * sz) .any) qs = some xs.flatten)
    (hn : xs.length = n) (hl : ∀ cs ∈ xs, cs.length = sz) (hsd : setd xs = some ys) (hsz : n * sz ≤ 16777216) (h : K (.sl ys) st) : AOpB P o t st K := fun F ρ w0 w a hst hm next Q hnx => by
  obtain ⟨C, hrun, h1, h2, hn, hl, h3⟩ := bslice_run ho hT hz hq hf hn hl hsd hsz hst hm
  have hb : Below w.heap.size w (w.alloc (.cells C e)) := (Below.refl _ _).alloc (Nat.le_refl _) _
  have hO := bslice_own (e := e) hst (ap_parts hT).2.1 hn hl hsz h1 h2 h3
  unfold Oper.wp
  rw [hrun]
  have hsl := hO.sl (hst.free_new (Nat.le_refl _))
  rw [hn] at hsl
  exact hnx _ _ ρ st _ (hst.grow hb) (Mv.below hb) (.s hsl) hb h
theorem op_bslice_own {T e sz by_ n : Nat} {parts : Array (Nat × Operand)} {qs : List (Nat × List AV)} (k : Nat) {tk : TK} (xs : List (List AV)) {ys : List (List AV)} {zl : List Value} (ho : o.op = .buildSlice T n parts) (hT : apI P T = some (e, sz, by_)) (hz : zeroC P e = some zl) (hq : partsA t st parts.toList = some qs) (hf : fillA (fun i => some (i * sz, sz)) (List.replicate (n * sz) .any) qs = some xs.flatten)
    (hn : xs.length = n) (hl : ∀ cs ∈ xs, cs.length = sz) (hsd : setd xs = some ys) (hsz : n * sz ≤ 16777216) (hk : st[k]? = some tk) (h : K (.ow k (tk.g + 1)) (st.set k ⟨tk.g + 1, .own e sz ys⟩)) : AOpB P o t st K := fun F ρ w0 w a hst hm next Q hnx => by
  obtain ⟨C, hrun, h1, h2, hn, hl, h3⟩ := bslice_run ho hT hz hq hf hn hl hsd hsz hst hm
  have hb : Below w.heap.size w (w.alloc (.cells C e)) := (Below.refl _ _).alloc (Nat.le_refl _) _
  obtain ⟨us, a1, a2, a3, a4, a5⟩ := bslice_own (e := e) hst (ap_parts hT).2.1 hn hl hsz h1 h2 h3
  obtain ⟨ρ', hρ, hs', hmv, _⟩ := hst.adopt hb (Nat.le_refl _) (by simp) hk (.own e sz ys) n (fun _ _ e => by cases e) fun el' sz' xs' e => by
    injection e with e1 e2 e3
    subst e1 e2 e3
    refine ⟨us, ⟨a1.1, ?_⟩, a2, a3, a4, a5⟩
    rcases a1.2 with ⟨b1, b2⟩ | ⟨g', cap, cur, b1, b2, b3⟩
    · exact .inl ⟨b1, b2⟩
    · exact .inr ⟨g', cap, cur, b1, Nat.zero_le _, b3⟩
  unfold Oper.wp
  rw [hrun]
  have hk2 : (st.set k ⟨tk.g + 1, .own e sz ys⟩)[k]? = some ⟨tk.g + 1, .own e sz ys⟩ := by rw [List.getElem?_set_self (List.getElem?_eq_some_iff.1 hk).1]
  have hrep := Rep.ow (F := F) (ρ := ρ') (w := w.alloc (.cells C e)) k (tk.g + 1) e sz ys hk2
  rw [hρ, hn] at hrep
  exact hnx _ _ ρ' _ _ hs' hmv hrep hb h
end
end Go.Proofs.Ytgjpeldgjpgbcaa
