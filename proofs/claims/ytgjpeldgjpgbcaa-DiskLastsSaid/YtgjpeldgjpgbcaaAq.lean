/- The operations on abstract states, on: stores, zero variables, calls and what they answer. No conditions. -/
import Derived.Test.YtgjpeldgjpgbcaaAp
namespace Go.Proofs.Ytgjpeldgjpgbcaa
set_option linter.unusedSimpArgs false
set_option linter.unusedVariables false
open Go.RowKit

/-! Stores. -/
def splV : Array Value → Nat → List Value → Array Value
  | vs, _, [] => vs
  | vs, o, u :: us => splV (vs.setIfInBounds o u) (o + 1) us
def splA : List AV → Nat → List AV → List AV
  | cs, _, [] => cs
  | cs, o, z :: zs => splA (cs.set o z) (o + 1) zs
theorem splA_len : ∀ (zs cs : List AV) (o : Nat), (splA cs o zs).length = cs.length
  | [], _, _ => rfl
  | z :: zs, cs, o => by simp [splA, splA_len zs]
theorem splV_size : ∀ (us : List Value) (vs : Array Value) (o : Nat), (splV vs o us).size = vs.size
  | [], _, _ => rfl
  | u :: us, vs, o => by simp [splV, splV_size us]
theorem spl_rel {R : Value → AV → Prop} : ∀ (us : List Value) (zs cs : List AV) (vs : Array Value) (o : Nat), us.length = zs.length → vs.size = cs.length → (∀ (j : Nat) v x, vs[j]? = some v → cs[j]? = some x → R v x) → (∀ (j : Nat) v x, us[j]? = some v → zs[j]? = some x → R v x) →
    ∀ (j : Nat) v x, (splV vs o us)[j]? = some v → (splA cs o zs)[j]? = some x → R v x
  | [], [], cs, vs, o, _, _, h, _ => h
  | u :: us, z :: zs, cs, vs, o, hl, hs, h, h' => by
    refine spl_rel us zs (cs.set o z) (vs.setIfInBounds o u) (o + 1) (by simpa using hl) (by simpa using hs) (fun j v x hv hx => ?_) fun j v x hv hx => h' (j + 1) v x (by simpa using hv) (by simpa using hx)
    simp only [Array.getElem?_setIfInBounds, List.getElem?_set] at hv hx
    by_cases e : o = j
    · rw [if_pos e] at hv hx
      split at hv
      · rw [if_pos (by rw [← hs]; assumption)] at hx
        injection hv with hv
        injection hx with hx
        subst hv hx
        exact h' 0 u z rfl rfl
      · cases hv
    · rw [if_neg e] at hv hx
      exact h j v x hv hx
  | [], _ :: _, _, _, _, hl, _, _, _ => by simp at hl
  | _ :: _, [], _, _, _, hl, _, _, _ => by simp at hl
theorem splV_one : ∀ (us : List Value) (vs : Array Value) (o : Nat), (∀ v ∈ vs, v.oneCell' = true) → (∀ v ∈ us, v.oneCell' = true) → ∀ v ∈ splV vs o us, v.oneCell' = true
  | [], _, _, h, _ => h
  | u :: us, vs, o, h, h' => by
    refine splV_one us _ (o + 1) (fun v hv => ?_) fun v hv => h' v (List.mem_cons_of_mem _ hv)
    rcases Array.mem_or_eq_of_mem_setIfInBounds hv with hv | hv
    · exact h v hv
    · subst hv; exact h' v List.mem_cons_self
theorem heap_setCells_same {b : Nat} {ty : TypeId} : ∀ (us : List Value) (o : Nat) (w : World) (vs : Array Value), w.heap[b]? = some (.cells vs ty (0, 0)) → (w.setCells b o us).heap[b]? = some (.cells (splV vs o us) ty (0, 0))
  | [], _, _, _, h => h
  | u :: us, o, w, vs, h => by
    refine heap_setCells_same us (o + 1) _ (vs.setIfInBounds o u) ?_
    simp [World.setCell, Array.getElem?_modify, h]
theorem heap_setCells_other {b b' : Nat} (hne : b' ≠ b) : ∀ (us : List Value) (o : Nat) (w : World), (w.setCells b o us).heap[b']? = w.heap[b']?
  | [], _, _ => rfl
  | u :: us, o, w => by rw [World.setCells, heap_setCells_other hne us, Below.heap_setCell _ _ _ _ hne]
theorem below_setCells {B b : Nat} (hB : B ≤ b) : ∀ (us : List Value) (o : Nat) (w w0 : World), Below B w0 w → Below B w0 (w.setCells b o us)
  | [], _, _, _, h => h
  | u :: us, o, w, w0, h => below_setCells hB us (o + 1) _ w0 (h.setCell (p := ⟨b, o, none⟩) hB u)

theorem grown_setCells (b : Nat) : ∀ (us : List Value) (w : World) (off : Nat), w.grownBy (w.setCells b off us) (some b)
  | [], _, _ => World.grownBy.refl _ _
  | v :: r, w, off => World.grownBy.trans (b := w.setCell ⟨b, off, none⟩ v) ⟨rfl, rfl, rfl, (by show w.heap.size ≤ (w.heap.modify b _).size; rw [Array.size_modify]; exact Nat.le_refl _), fun k _ hk => Below.heap_setCell _ _ _ k (fun e => hk (by rw [e]))⟩ (grown_setCells b r _ _)
section
variable {P : Program} {o : Oper} {t : List AV} {st : List TK} {x y c : Operand} {vx vy v : Value} {z z' : AV} {zs : List AV}
theorem St.store {F : Nat → Prop} {ρ : Loc} {w0 : Bs} {w : World} {k g off : Nat} {bt : TypeId} {cs : List AV} {us : List Value} (hs : St F ρ st w0 w) (hk : st[k]? = some ⟨g, .box bt cs⟩) (hl : us.length = zs.length) (h1 : ∀ u ∈ us, u.oneCell' = true) (hr : ∀ (j : Nat) u x, us[j]? = some u → zs[j]? = some x → Rep F ρ st w u x) :
    St F ρ (st.set k ⟨g, .box bt (splA cs off zs)⟩) w0 (w.setCells (ρ k).1 off us) ∧ Mv F ρ st w ρ (st.set k ⟨g, .box bt (splA cs off zs)⟩) (w.setCells (ρ k).1 off us) := by
  have hklt := (List.getElem?_eq_some_iff.1 hk).1
  have hge := hs.geB k _ hk (by simp)
  have hmv : Mv F ρ st w ρ (st.set k ⟨g, .box bt (splA cs off zs)⟩) (w.setCells (ρ k).1 off us) := Mv.upd hk (fun _ _ => rfl) (fun b o hf ho => ⟨fun h => hf.2 k _ hk h, (heap_setCells_other (fun e => hf.2 k _ hk e.symm) us off w).trans ho⟩) (.inr (.inr (.inr ⟨rfl, rfl, rfl, rfl⟩)))
  refine ⟨hs.upd hk (fun _ _ => rfl) (hs.below.grown (grown_setCells _ us w off) (fun b e => by injection e with e; subst e; exact hge.1.1)) (grown_setCells _ us w off).size hmv (fun j q b hj hq hf => ?_) (fun b hf => ?_) (fun j q b hj hq hf hf' => ?_) (fun ty cs' e => ?_) (fun el sz xs e => by cases e) (fun p e => by cases e), hmv⟩
  · exact heap_setCells_other (fun e => hj (hs.inj j q k _ b hq hf hk e.symm)) us off w
  · have h2 := hs.ge k _ b hk hf
    exact ⟨h2.1, Nat.lt_of_lt_of_le h2.2 (grown_setCells _ us w off).size⟩
  · exact hj (hs.inj j q k _ b hq hf hk hf')
  · injection e with e1 e2
    subst e1 e2
    obtain ⟨vs, g1, g2, g3, g4⟩ := hs.box k _ _ cs hk
    refine ⟨_, heap_setCells_same us off w vs g1, by rw [splV_size, splA_len, g2], splV_one us vs off g3 h1, ?_⟩
    exact spl_rel us zs cs vs off hl g2 (fun j v x hv hx => (g4 j v x hv hx).mv hmv) (fun j v x hv hx => (hr j v x hv hx).mv hmv)

def szT (P : Program) (ty : TypeId) : Option Nat := (P.info? ty).map (·.size)
theorem op_store {K : AV → List TK → Prop} {ty bt : TypeId} {k g off : Nat} {cs : List AV} (ho : o.op = .store ty x y) (hx : evA t x = .bx k g off) (hk : st[k]? = some ⟨g, .box bt cs⟩) (hy : evA t y = z) (hz : z.cells? = some zs) (hl : liveA st z = true) (hT : szT P ty = some zs.length) (hle : off + zs.length ≤ cs.length)
    (h : K (.sc undef) (st.set k ⟨g, .box bt (splA cs off zs)⟩)) : AOp P o t st K := fun F ρ w0 w a hs hm next Q hn => by
  have hp := hm.ev x
  rw [hx] at hp
  have hv := hp.bx_inv hk
  have hr := hm.ev y
  rw [hy] at hr
  obtain ⟨h1, h2, h3⟩ := hr.cells hz (fun k g e => live_ow (by rw [← e]; exact hl)) (fun k g o e => live_bx (by rw [← e]; exact hl))
  obtain ⟨vs, g1, g2, g3, g4⟩ := hs.box k g bt cs hk
  obtain ⟨hs', hmv⟩ := hs.store (off := off) (zs := zs) (us := (a.eval y).cells.toList) hk (by simpa using h1) (fun u hu => h2 u (by simpa using hu)) (fun j u x hu hx => h3 j u x (by simpa using hu) hx)
  have hth : w.there (ρ k).1 off (a.eval y).cells.size := fun j hj => by
    have hlt : off + j < vs.size := by rw [g2]; omega
    refine ⟨?_, ?_⟩
    · rw [cell_of_row _ _ _ _ _ _ g1, Array.getElem?_eq_getElem hlt]; rfl
    · simp [World.frozen?, g1]
  have hst : (storeVar ty ⟨(ρ k).1, off, none⟩ (a.eval y)).run P w = .ok () (w.setCells (ρ k).1 off (a.eval y).cells.toList) :=
    run_storeVar_mid w (ρ k).1 off ty (a.eval y).cells hth (by unfold szT at hT; rw [hT, h1]) (by rw [Array.all_eq_true_iff_forall_mem]; exact h2)
  have hrun : (execOp a.eval o).run P w = .ok .skip (w.setCells (ρ k).1 off (a.eval y).cells.toList) := by
    simp only [execOp, ho, hv, Instr.storeAt, Instr.sureAddr, Sem.run_bind, Sem.run_pure, Result.andThen_ok, hst]
  unfold Oper.wp
  rw [hrun]
  exact hn undef _ ρ _ _ hs' hmv (.sc _) h

/-! A variable without a value. -/
def zeroC (P : Program) (ty : TypeId) : Option (List Value) := (P.info? ty).bind fun i => i.zero.bind fun z => if z.cells.all (·.oneCell') then some z.cells.toList else none
theorem op_alloc {K : AV → List TK → Prop} {ty : TypeId} {l : List Value} (k : Nat) {tk : TK} (ho : o.op = .alloc ty) (hT : zeroC P ty = some l) (hk : st[k]? = some tk) (h : K (.bx k (tk.g + 1) 0) (st.set k ⟨tk.g + 1, .box ty (l.map .sc)⟩)) : AOpB P o t st K := fun F ρ w0 w a hs hm next Q hn => by
  unfold zeroC at hT
  cases hi : P.info? ty with
  | none => rw [hi] at hT; cases hT
  | some i =>
    rw [hi] at hT
    cases hz : i.zero with
    | none => simp [hz] at hT
    | some zv =>
      simp [hz] at hT
      obtain ⟨hone, rfl⟩ := hT
      obtain ⟨ρ', hρ, hs', hmv, _⟩ := hs.adopt (w' := w.alloc (.cells zv.cells ty)) ((Below.refl _ _).alloc (Nat.le_refl _) _) (Nat.le_refl _) (by simp) hk (.box ty (zv.cells.toList.map .sc)) 0 (fun ty' cs e => by
          injection e with e1 e2
          subst e1 e2
          refine ⟨_, heap_alloc_new w _, by simp, fun u hu => ?_, fun j v x hv hx => ?_⟩
          · obtain ⟨i, hi, rfl⟩ := Array.mem_iff_getElem.1 hu
            exact hone i hi
          · simp at hx
            rw [hv] at hx
            simp at hx
            subst hx
            exact .sc v) (fun _ _ _ e => by cases e)
      have hrun : (execOp a.eval o).run P w = .ok (.value (.pointer (some ⟨w.heap.size, 0, none⟩))) (w.alloc (.cells zv.cells ty)) := by
        simp only [execOp, ho, Instr.alloc, zeroValue, typeInfo, Sem.run_bind]
        simp [hi, hz, newVar, newRow]
      unfold Oper.wp
      rw [hrun]
      have hk2 : (st.set k ⟨tk.g + 1, .box ty (zv.cells.toList.map .sc)⟩)[k]? = some ⟨tk.g + 1, .box ty (zv.cells.toList.map .sc)⟩ := by rw [List.getElem?_set_self (List.getElem?_eq_some_iff.1 hk).1]
      have hrep := Rep.bx (F := F) (ρ := ρ') (w := w.alloc (.cells zv.cells ty)) k (tk.g + 1) 0 ty _ hk2
      rw [hρ] at hrep
      exact hn _ _ ρ' _ _ hs' hmv hrep ((Below.refl _ _).alloc (Nat.le_refl _) _) h

/-! Calls. -/
theorem own_form' {w : World} {base n c : Nat} {el : TypeId} {Ad : Option Addr} {vs : List Value} {size : Nat} (h : w.ownsRow base el size (.slice Ad n c) n vs) : n ≤ c ∧ c ≤ maxLen := by
  rcases h.2 with ⟨h1, _⟩ | ⟨g, cap, cur, h1, _, _, h2, h3, _⟩
  · injection h1 with _ h1 h2; subst h1 h2; exact ⟨Nat.le_refl _, Nat.zero_le _⟩
  · injection h1 with _ _ h1; subst h1; exact ⟨h2, h3⟩
/-- What a call answers: settled data; an own slice; several, the first an own slice. -/
inductive RS where
  | s (y : AV)
  | o (el : TypeId) (sz : Nat) (xs : List (List AV))
  | ot (el : TypeId) (sz : Nat) (xs : List (List AV)) (rest : List AV)
def RepO (F : Nat → Prop) (base : Nat) (w : World) (g c : Nat) (el : TypeId) (sz : Nat) (xs : List (List AV)) : Prop :=
  ∃ us : List Value, w.ownsRow base el sz (.slice (some ⟨g, 0, none⟩) xs.length c) xs.length us ∧ 0 < sz ∧ (∀ v ∈ us, v.oneCell' = true) ∧ (∀ (i : Nat) (cs : List AV), xs[i]? = some cs → cs.length = sz) ∧
    ∀ (i j : Nat) (cs : List AV) v x, xs[i]? = some cs → cs[j]? = some x → us[i * sz + j]? = some v → RepS (fun b => F b ∧ b ≠ g) w v x
def RepR (F : Nat → Prop) (base : Nat) (w : World) (v : Value) : RS → Prop
  | .s y => RepS F w v y
  | .o el sz xs => ∃ g c, v = .slice (some ⟨g, 0, none⟩) xs.length c ∧ RepO F base w g c el sz xs
  | .ot el sz xs rest => ∃ g c vs, v = .tuple (#[.slice (some ⟨g, 0, none⟩) xs.length c] ++ vs) ∧ RepO F base w g c el sz xs ∧ vs.size = rest.length ∧ ∀ (j : Nat) v x, vs[j]? = some v → rest[j]? = some x → RepS (fun b => F b ∧ b ≠ g) w v x
/-- The function f, handed data, answers as R says, and leaves all that was there as it was. -/
def AC (P : Program) (f : FuncId) (args : List AV) (R : RS → Prop) : Prop := ∀ (F : Nat → Prop) (w : World) (vs : Array Value), vs.size = args.length → (∀ b, w.heap.size ≤ b → F b) → (∀ (j : Nat) v x, vs[j]? = some v → args[j]? = some x → RepS F w v x) →
  Calls P f vs w fun e w' => ∃ v r, e = .returned v ∧ RepR F w.heap.size w' v r ∧ Below w.heap.size w w' ∧ R r
theorem AC.mono {f : FuncId} {args : List AV} {R R' : RS → Prop} (h : AC P f args R) (hr : ∀ r, R r → R' r) : AC P f args R' := fun F w vs h1 h2 h3 => (h F w vs h1 h2 h3).mono fun _ _ ⟨v, r, a, b, c, d⟩ => ⟨v, r, a, b, c, hr r d⟩

/-- A slice that is nil is read as an empty one. -/
def nz : AV → AV
  | .sc (.slice none 0 0) => .sl []
  | x => x
theorem RepS.nz {F : Nat → Prop} {w : World} {v : Value} {x : AV} (h : RepS F w v x) : RepS F w v (Go.Proofs.Ytgjpeldgjpgbcaa.nz x) := by
  unfold Go.Proofs.Ytgjpeldgjpgbcaa.nz
  split
  · cases h; exact .sl0 _ _ (Nat.zero_le _)
  · exact h
theorem Rep.nz {F : Nat → Prop} {ρ : Loc} {w : World} {v : Value} {x : AV} (h : Rep F ρ st w v x) : Rep F ρ st w v (Go.Proofs.Ytgjpeldgjpgbcaa.nz x) := by
  unfold Go.Proofs.Ytgjpeldgjpgbcaa.nz
  split
  · cases h with | s h => exact .s h.nz
  · exact h
def arg0 : AV → Option AV
  | .sc v => some (.sc v)
  | .sl xs => some (.sl xs)
  | _ => none
def arg1 (x : AV) : Option AV := arg0 (nz x)
def args1 : List AV → Option (List AV)
  | [] => some []
  | x :: xs => match arg1 x, args1 xs with | some y, some ys => some (y :: ys) | _, _ => none
def argA : AV → Option AV
  | .ag cs => match args1 cs with | some ys => some (.ag ys) | none => none
  | x => arg1 x
def argsA (t : List AV) : List Operand → Option (List AV)
  | [] => some []
  | x :: xs => match argA (evA t x), argsA t xs with | some y, some ys => some (y :: ys) | _, _ => none
theorem args1_get : ∀ (cs ys : List AV), args1 cs = some ys → cs.length = ys.length ∧ ∀ (j : Nat) x y, cs[j]? = some x → ys[j]? = some y → arg1 x = some y
  | [], ys, h => by simp [args1] at h; subst h; simp
  | x :: xs, ys, h => by
    simp only [args1] at h
    cases h1 : arg1 x with
    | none => rw [h1] at h; cases h
    | some y =>
      cases h2 : args1 xs with
      | none => rw [h1, h2] at h; cases h
      | some ys' =>
        rw [h1, h2] at h
        injection h with h
        subst h
        obtain ⟨h3, h4⟩ := args1_get xs ys' h2
        refine ⟨by simp [h3], fun j x' y' hx hy => ?_⟩
        cases j with
        | zero => simp at hx hy; subst hx hy; exact h1
        | succ j => exact h4 j x' y' (by simpa using hx) (by simpa using hy)
theorem arg0_rep {F : Nat → Prop} {ρ : Loc} {w : World} {y : AV} (h : Rep F ρ st w v z) (hz : arg0 z = some y) : RepS (Free F ρ st) w v y := by
  cases z with
  | sc u => simp [arg0] at hz; subst hz; cases h with | s h => exact h
  | sl xs => simp [arg0] at hz; subst hz; exact h.sl_s
  | _ => simp [arg0] at hz
theorem arg1_rep {F : Nat → Prop} {ρ : Loc} {w : World} {y : AV} (h : Rep F ρ st w v z) (hz : arg1 z = some y) : RepS (Free F ρ st) w v y := arg0_rep h.nz hz
theorem argA_rep {F : Nat → Prop} {ρ : Loc} {w : World} {y : AV} (h : Rep F ρ st w v z) (hz : argA z = some y) : RepS (Free F ρ st) w v y := by
  cases z with
  | ag cs =>
    simp only [argA] at hz
    cases h1 : args1 cs with
    | none => rw [h1] at hz; cases hz
    | some ys =>
      rw [h1] at hz
      injection hz with hz
      subst hz
      obtain ⟨h2, h3⟩ := args1_get cs ys h1
      have key : ∀ vs : Array Value, vs.size = cs.length → (∀ u ∈ vs, u.oneCell' = true) → (∀ (j : Nat) v x, vs[j]? = some v → cs[j]? = some x → Rep F ρ st w v x) → RepS (Free F ρ st) w (.agg vs) (.ag ys) := fun vs hsz h1 hr =>
        .ag vs ys (by omega) h1 fun j v y hv hy => by
          have hj : j < cs.length := by rw [h2]; exact (List.getElem?_eq_some_iff.1 hy).1
          exact arg1_rep (hr j v _ hv (List.getElem?_eq_getElem hj)) (h3 j _ y (List.getElem?_eq_getElem hj) hy)
      cases h with
      | s h => cases h with | ag vs _ hsz h1 hr => exact key vs hsz h1 fun j v x hv hx => .s (hr j v x hv hx)
      | ag vs _ hsz h1 hr => exact key vs hsz h1 hr
  | _ => exact arg1_rep h (by simpa [argA] using hz)
theorem argsA_rep {F : Nat → Prop} {ρ : Loc} {w : World} {a : Act} (hm : Fm F ρ st w a t) : ∀ (xs : List Operand) (ys : List AV), argsA t xs = some ys → (xs.map a.eval).length = ys.length ∧ ∀ (j : Nat) v y, (xs.map a.eval)[j]? = some v → ys[j]? = some y → RepS (Free F ρ st) w v y
  | [], ys, h => by simp [argsA] at h; subst h; simp
  | x :: xs, ys, h => by
    simp only [argsA] at h
    cases h1 : argA (evA t x) with
    | none => rw [h1] at h; cases h
    | some y =>
      cases h2 : argsA t xs with
      | none => rw [h1, h2] at h; cases h
      | some ys' =>
        rw [h1, h2] at h
        injection h with h
        subst h
        obtain ⟨h3, h4⟩ := argsA_rep hm xs ys' h2
        refine ⟨by simpa using h3, fun j v y' hv hy => ?_⟩
        cases j with
        | zero => simp at hv hy; subst hv hy; exact argA_rep (hm.ev x) h1
        | succ j => exact h4 j v y' (by simpa using hv) (by simpa using hy)

/-- How the answer is taken: an own slice settled (none), or under a ticket. -/
def KR (K : AV → List TK → Prop) (st : List TK) (kt : Option Nat) : RS → Prop
  | .s y => K y st
  | .o el sz xs => match kt with
    | none => K (.sl xs) st
    | some k => ∃ tk, st[k]? = some tk ∧ K (.ow k (tk.g + 1)) (st.set k ⟨tk.g + 1, .own el sz xs⟩)
  | .ot el sz xs rest => match kt with
    | none => K (.tu (.sl xs :: rest)) st
    | some k => ∃ tk, st[k]? = some tk ∧ K (.tu (.ow k (tk.g + 1) :: rest)) (st.set k ⟨tk.g + 1, .own el sz xs⟩)
theorem RepO.sl {F : Nat → Prop} {base : Nat} {w : World} {g c : Nat} {el : TypeId} {sz : Nat} {xs : List (List AV)} (h : RepO F base w g c el sz xs) (hF : F g) : RepS F w (.slice (some ⟨g, 0, none⟩) xs.length c) (.sl xs) := by
  obtain ⟨us, h1, h2, h3, h4, h5⟩ := h
  have hf := own_form' h1
  rcases Nat.eq_zero_or_pos xs.length with h0 | h0
  · have : xs = [] := List.eq_nil_of_length_eq_zero h0
    subst this
    exact .sl0 _ _ hf.2
  · have hul : us.length = xs.length * sz := h1.1
    have hlt : ∀ i j, i < xs.length → j < sz → i * sz + j < us.length := fun i j hi hj => by
      rw [hul]
      calc i * sz + j < i * sz + sz := by omega
        _ = (i + 1) * sz := by rw [Nat.add_mul, Nat.one_mul]
        _ ≤ xs.length * sz := Nat.mul_le_mul_right _ hi
    refine .sl1 g 0 xs.length c sz (fun i j => if h : i * sz + j < us.length then us[i * sz + j] else .bool false) xs rfl h0 hf.1 hf.2 h2 hF h4 (fun i j hi hj => ?_) (fun i j => ?_) (fun i j cs x hi hj => ?_)
    · have hl := hlt i j hi hj
      rw [dif_pos hl, Nat.zero_add]
      have h6 := h1.cells (g := g) rfl (i * sz + j) _ (List.getElem?_eq_getElem hl)
      rw [← h6]
      congr 1
      unfold Addr.add
      split <;> simp_all
    · split
      · exact h3 _ (List.getElem_mem _)
      · rfl
    · have hi' := (List.getElem?_eq_some_iff.1 hi).1
      have hj' := (List.getElem?_eq_some_iff.1 hj).1
      rw [h4 i cs hi] at hj'
      have hl := hlt i j hi' hj'
      rw [dif_pos hl]
      exact (h5 i j cs _ x hi hj (List.getElem?_eq_getElem hl)).mono fun b _ hb => hb.1
def callOk (P : Program) (f : FuncId) : Bool := match P.funcs[f]? with | some fn => fn.name != "runtime.NumGoroutine" && fn.body.isSome | none => false
theorem run_call {f : FuncId} {xs : Array Operand} {Ts : Array TypeId} {a : Act} {w : World} (ho : o.op = .call { callee := .value (.func f), args := xs, argTypes := Ts }) (hok : callOk P f = true) : (execOp a.eval o).run P w = .ok (.enter f (xs.map a.eval)) w := by
  unfold callOk at hok
  cases hf : P.funcs[f]? with
  | none => rw [hf] at hok; cases hok
  | some fn =>
    rw [hf] at hok
    cases hb : fn.body with
    | none => simp [hb] at hok
    | some b =>
      simp [hb] at hok
      simp only [execOp, ho, resolve, Deferred.ofValue, Act.eval, Sem.run_bind, Sem.run_pure, Result.andThen_ok, invoke, callFunc]
      simp [hf, hok, hb]
theorem op_call {K : AV → List TK → Prop} {f : FuncId} {xs : Array Operand} {Ts : Array TypeId} {ys : List AV} {R : RS → Prop} (hC : AC P f ys R) (ho : o.op = .call { callee := .value (.func f), args := xs, argTypes := Ts }) (hok : callOk P f = true) (hargs : argsA t xs.toList = some ys) (kt : Option Nat) (h : ∀ r, R r → KR K st kt r) : AOpB P o t st K := fun F ρ w0 w a hs hm next Q hn => by
  unfold Oper.wp
  rw [run_call ho hok]
  obtain ⟨h1, h2⟩ := argsA_rep hm xs.toList ys hargs
  have hc := hC (Free F ρ st) w (xs.map a.eval) (by simpa using h1) (fun b hb => hs.free_new hb) (fun j v y hv hy => h2 j v y (by simpa using hv) hy)
  refine Calls.mono hc fun e w' ⟨v, r, he, hr, hb, hR⟩ => ?_
  subst he
  have hq := h r hR
  have settle : ∀ {g c el sz xs}, RepO (Free F ρ st) w.heap.size w' g c el sz xs → RepS (Free F ρ st) w' (.slice (some ⟨g, 0, none⟩) xs.length c) (.sl xs) := fun h => h.sl (hs.free_new (by
    obtain ⟨us, h1, _⟩ := h
    exact (h1.lt _ rfl).1))
  have adopt : ∀ {g c el sz xs k tk}, RepO (Free F ρ st) w.heap.size w' g c el sz xs → st[k]? = some tk → ∃ ρ' : Loc, ρ' k = (g, c) ∧ St F ρ' (st.set k ⟨tk.g + 1, .own el sz xs⟩) w0 w' ∧ Mv F ρ st w ρ' (st.set k ⟨tk.g + 1, .own el sz xs⟩) w' ∧ ∀ b, Free F ρ st b → b ≠ g → Free F ρ' (st.set k ⟨tk.g + 1, .own el sz xs⟩) b := fun {g c el sz xs k tk} h hk => by
    obtain ⟨us, h1, h2, h3, h4, h5⟩ := h
    have hlt := h1.lt _ rfl
    refine hs.adopt hb hlt.1 hlt.2 hk (.own el sz xs) c (fun _ _ e => by cases e) fun el' sz' xs' e => ?_
    injection e with e1 e2 e3
    subst e1 e2 e3
    refine ⟨us, ⟨h1.1, ?_⟩, h2, h3, h4, h5⟩
    rcases h1.2 with ⟨a1, a2⟩ | ⟨g', cap, cur, a1, a2, a3⟩
    · exact .inl ⟨a1, a2⟩
    · exact .inr ⟨g', cap, cur, a1, Nat.zero_le _, a3⟩
  cases r with
  | s y => exact hn v w' ρ st y (hs.grow hb) (Mv.below hb) (.s hr) hb hq
  | o el sz xs =>
    obtain ⟨g, c, rfl, hO⟩ := hr
    cases kt with
    | none => exact hn _ w' ρ st _ (hs.grow hb) (Mv.below hb) (.s (settle hO)) hb hq
    | some k =>
      obtain ⟨tk, hk, hq⟩ := hq
      obtain ⟨ρ', hρ, hs', hmv, _⟩ := adopt hO hk
      have hk2 : (st.set k ⟨tk.g + 1, .own el sz xs⟩)[k]? = some ⟨tk.g + 1, .own el sz xs⟩ := by rw [List.getElem?_set_self (List.getElem?_eq_some_iff.1 hk).1]
      have hrep := Rep.ow (F := F) (ρ := ρ') (w := w') k (tk.g + 1) el sz xs hk2
      rw [hρ] at hrep
      exact hn _ w' ρ' _ _ hs' hmv hrep hb hq
  | ot el sz xs rest =>
    obtain ⟨g, c, vs, rfl, hO, hl, hrest⟩ := hr
    cases kt with
    | none =>
      refine hn _ w' ρ st _ (hs.grow hb) (Mv.below hb) (.s (.tu _ _ (by simp [hl]; omega) fun j v x hv hx => ?_)) hb hq
      cases j with
      | zero =>
        rw [Array.getElem?_append_left (by simp)] at hv
        simp at hv hx
        subst hv hx
        exact settle hO
      | succ j =>
        rw [Array.getElem?_append_right (by simp)] at hv
        exact (hrest j v x (by simpa using hv) (by simpa using hx)).mono fun b _ hb => hb.1
    | some k =>
      obtain ⟨tk, hk, hq⟩ := hq
      obtain ⟨ρ', hρ, hs', hmv, hfr⟩ := adopt hO hk
      have hk2 : (st.set k ⟨tk.g + 1, .own el sz xs⟩)[k]? = some ⟨tk.g + 1, .own el sz xs⟩ := by rw [List.getElem?_set_self (List.getElem?_eq_some_iff.1 hk).1]
      have hrep := Rep.ow (F := F) (ρ := ρ') (w := w') k (tk.g + 1) el sz xs hk2
      rw [hρ] at hrep
      refine hn _ w' ρ' _ _ hs' hmv (.tu _ _ (by simp [hl]; omega) fun j v x hv hx => ?_) hb hq
      cases j with
      | zero =>
        rw [Array.getElem?_append_left (by simp)] at hv
        simp at hv hx
        subst hv hx
        exact hrep
      | succ j =>
        rw [Array.getElem?_append_right (by simp)] at hv
        exact .s ((hrest j v x (by simpa using hv) (by simpa using hx)).mono fun b _ hb => hfr b hb.1 hb.2)
end
end Go.Proofs.Ytgjpeldgjpgbcaa
