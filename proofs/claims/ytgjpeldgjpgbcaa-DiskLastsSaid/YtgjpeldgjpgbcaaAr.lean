/- Walks over abstract states: what a function answers, and a whole function. No conditions. -/
import Derived.Test.YtgjpeldgjpgbcaaAq
namespace Go.Proofs.Ytgjpeldgjpgbcaa
set_option linter.unusedSimpArgs false
set_option linter.unusedVariables false
open Go.RowKit

def set0 (st : List TK) : AV → Option AV
  | .sc v => some (.sc v)
  | .sl xs => some (.sl xs)
  | .ow k g => match st[k]? with | some ⟨g', .own _ _ xs⟩ => if g' = g then some (.sl xs) else none | some ⟨g', .nown _ _⟩ => if g' = g then some (.sl []) else none | _ => none
  | _ => none
def set1 (st : List TK) (x : AV) : Option AV := set0 st (nz x)
def sets (st : List TK) : List AV → Option (List AV)
  | [] => some []
  | x :: xs => match set1 st x, sets st xs with | some y, some ys => some (y :: ys) | _, _ => none
def setA (st : List TK) : AV → Option AV
  | .ag cs => match sets st cs with | some ys => some (.ag ys) | none => none
  | x => set1 st x

section
variable {P : Program} {t : List AV} {st : List TK} {z y : AV} {v : Value} {F : Nat → Prop} {ρ : Loc} {w0 : Bs} {w : World} {a : Act}
theorem St.repO (hs : St F ρ st w0 w) {k g : Nat} {el : TypeId} {sz : Nat} {xs : List (List AV)} (hk : st[k]? = some ⟨g, .own el sz xs⟩) : RepO F 0 w (ρ k).1 (ρ k).2 el sz xs := by
  obtain ⟨vs, h1, h2, h3, h4, h5⟩ := hs.own k g el sz xs hk
  exact ⟨vs, h1, h2, h3, h4, fun i j cs v x a b c => (h5 i j cs v x a b c).mono fun b _ hb => ⟨hb.1, fun e => hb.ne k _ hk (by simp) e.symm⟩⟩
theorem own_base {w : World} {base g c n m : Nat} {el : TypeId} {sz : Nat} {vs : List Value} (h : w.ownsRow 0 el sz (.slice (some ⟨g, 0, none⟩) n c) m vs) (hb : base ≤ g) : w.ownsRow base el sz (.slice (some ⟨g, 0, none⟩) n c) m vs :=
  ⟨h.1, by
    rcases h.2 with ⟨h1, h2⟩ | ⟨g', cap, cur, h1, _, h3⟩
    · cases h1
    · injection h1 with h4 h5 h6
      injection h4 with h4
      injection h4 with h4
      subst h4 h5 h6
      exact .inr ⟨_, _, cur, rfl, hb, h3⟩⟩
theorem St.repOb (hs : St F ρ st w0 w) (h0 : w0.os = []) {k g : Nat} {el : TypeId} {sz : Nat} {xs : List (List AV)} (hk : st[k]? = some ⟨g, .own el sz xs⟩) : RepO F w0.w.heap.size w (ρ k).1 (ρ k).2 el sz xs := by
  obtain ⟨vs, h1, h2⟩ := hs.repO hk
  refine ⟨vs, own_base h1 ?_, h2⟩
  rcases (hs.geB k _ hk (by simp)).1.1 with h | ⟨j, tk, hj, _⟩
  · exact h
  · rw [h0] at hj; simp at hj
theorem set0_rep (hs : St F ρ st w0 w) (h : Rep F ρ st w v z) (hz : set0 st z = some y) : RepS F w v y := by
  cases z with
  | sc u => simp [set0] at hz; subst hz; cases h with | s h => exact h.mono fun b _ hb => hb.1
  | sl xs => simp [set0] at hz; subst hz; exact h.sl_s.mono fun b _ hb => hb.1
  | ow k g =>
    simp only [set0] at hz
    cases hk : st[k]? with
    | none => rw [hk] at hz; cases hz
    | some tk =>
      obtain ⟨g', c⟩ := tk
      rw [hk] at hz
      cases c with
      | own el sz xs =>
        simp at hz
        obtain ⟨rfl, rfl⟩ := hz
        rw [h.ow_inv hk]
        exact (hs.repO hk).sl (hs.geB k _ hk (by simp)).1.2
      | nown el sz =>
        simp at hz
        obtain ⟨rfl, rfl⟩ := hz
        rw [h.ow0_inv hk]
        exact .sl0 _ _ (Nat.zero_le _)
      | _ => simp at hz
  | _ => simp [set0] at hz
theorem set1_rep (hs : St F ρ st w0 w) (h : Rep F ρ st w v z) (hz : set1 st z = some y) : RepS F w v y := set0_rep hs h.nz hz
theorem sets_rep (hs : St F ρ st w0 w) : ∀ (cs ys : List AV), sets st cs = some ys → cs.length = ys.length ∧ ∀ (j : Nat) v x y, cs[j]? = some x → ys[j]? = some y → Rep F ρ st w v x → RepS F w v y
  | [], ys, h => by simp [sets] at h; subst h; simp
  | x :: xs, ys, h => by
    simp only [sets] at h
    cases h1 : set1 st x with
    | none => rw [h1] at h; cases h
    | some y =>
      cases h2 : sets st xs with
      | none => rw [h1, h2] at h; cases h
      | some ys' =>
        rw [h1, h2] at h
        injection h with h
        subst h
        obtain ⟨h3, h4⟩ := sets_rep hs xs ys' h2
        refine ⟨by simpa using h3, fun j v x' y' hx hy hr => ?_⟩
        cases j with
        | zero => simp at hx hy; subst hx hy; exact set1_rep hs hr h1
        | succ j => exact h4 j v x' y' (by simpa using hx) (by simpa using hy) hr
theorem setA_rep (hs : St F ρ st w0 w) (h : Rep F ρ st w v z) (hz : setA st z = some y) : RepS F w v y := by
  cases z with
  | ag cs =>
    simp only [setA] at hz
    cases h1 : sets st cs with
    | none => rw [h1] at hz; cases hz
    | some ys =>
      rw [h1] at hz
      injection hz with hz
      subst hz
      obtain ⟨h2, h3⟩ := sets_rep hs cs ys h1
      have key : ∀ vs : Array Value, vs.size = cs.length → (∀ u ∈ vs, u.oneCell' = true) → (∀ (j : Nat) v x, vs[j]? = some v → cs[j]? = some x → Rep F ρ st w v x) → RepS F w (.agg vs) (.ag ys) := fun vs hsz h1 hr =>
        .ag vs ys (by omega) h1 fun j v x hv hx => by
          have hj : j < cs.length := by rw [h2]; exact (List.getElem?_eq_some_iff.1 hx).1
          exact h3 j v cs[j] x (List.getElem?_eq_getElem hj) hx (hr j v _ hv (List.getElem?_eq_getElem hj))
      cases h with
      | s h => cases h with | ag vs _ hsz h1 hr => exact key vs hsz h1 fun j v x hv hx => .s (hr j v x hv hx)
      | ag vs _ hsz h1 hr => exact key vs hsz h1 hr
  | _ => exact set1_rep hs h (by simpa [setA] using hz)

/-- A result, as data. -/
inductive ResV (P : Program) (t : List AV) (st : List TK) : ResultVar → AV → Prop
  | tmp {i : Nat} {y : AV} (h : evA t (.tmp i) = y) : ResV P t st (.tmp i) y
  | cell {a T k g off bt : Nat} {cs : List AV} {z : AV} (h : evA t (.tmp a) = .bx k g off) (hk : st[k]? = some ⟨g, .box bt cs⟩) (hT : agN P T = some none) (hz : cs[off]? = some z) : ResV P t st (.cell a T) z
  | cells {a T k g off bt n : Nat} {cs zs : List AV} (h : evA t (.tmp a) = .bx k g off) (hk : st[k]? = some ⟨g, .box bt cs⟩) (hT : agN P T = some (some n)) (hn : off + n ≤ cs.length) (hz : (cs.drop off).take n = zs) : ResV P t st (.cell a T) (.ag zs)
def resRun (tmps : Array Value) : ResultVar → Sem Value
  | .tmp t => pure (tmps.getD t undef)
  | .cell a t => do loadVar t (← asAddr (tmps.getD a undef))
theorem ResV.run {rv : ResultVar} (h : ResV P t st rv y) (hs : St F ρ st w0 w) (hm : Fm F ρ st w a t) : ∃ v, (resRun a.tmps rv).run P w = .ok v w ∧ Rep F ρ st w v y := by
  cases h with
  | tmp h => exact ⟨_, rfl, h ▸ hm.ev (.tmp _)⟩
  | @cell a' T k g off bt cs z h hk hT hz =>
    obtain ⟨v, h1, h2⟩ := rd_load_bx (P := P) (o := ⟨none, .load T (.tmp a'), 0, "", #[], none⟩) rfl hT h hk hz F ρ w0 w a hs hm
    refine ⟨v, ?_, h1⟩
    have h3 := hm.ev (.tmp a')
    rw [h] at h3
    have h4 : a.tmps.getD a' undef = .pointer (some ⟨(ρ k).1, off, none⟩) := h3.bx_inv hk
    have h5 := h2 w (Below.refl _ _)
    simp only [execOp, Act.eval, h4, Sem.run_bind, Instr.loadAt, Instr.sureAddr, Sem.run_pure, Result.andThen_ok] at h5
    simp only [resRun, h4, asAddr, Sem.run_bind, Sem.run_pure, Result.andThen_ok]
    cases h6 : (loadVar T ⟨(ρ k).1, off, none⟩).run P w with
    | ok u w' => rw [h6] at h5; simp at h5; rw [h5.1, h5.2]
    | halt x w' => rw [h6] at h5; simp at h5
  | @cells a' T k g off bt n cs zs h hk hT hn hz =>
    obtain ⟨v, h1, h2⟩ := rd_loadN_bx (P := P) (o := ⟨none, .load T (.tmp a'), 0, "", #[], none⟩) rfl hT h hk hn hz F ρ w0 w a hs hm
    refine ⟨v, ?_, h1⟩
    have h3 := hm.ev (.tmp a')
    rw [h] at h3
    have h4 : a.tmps.getD a' undef = .pointer (some ⟨(ρ k).1, off, none⟩) := h3.bx_inv hk
    have h5 := h2 w (Below.refl _ _)
    simp only [execOp, Act.eval, h4, Sem.run_bind, Instr.loadAt, Instr.sureAddr, Sem.run_pure, Result.andThen_ok] at h5
    simp only [resRun, h4, asAddr, Sem.run_bind, Sem.run_pure, Result.andThen_ok]
    cases h6 : (loadVar T ⟨(ρ k).1, off, none⟩).run P w with
    | ok u w' => rw [h6] at h5; simp at h5; rw [h5.1, h5.2]
    | halt x w' => rw [h6] at h5; simp at h5
/-- What the function fn answers out of these slots. -/
def ResA (P : Program) (fn : Func) (R : RS → Prop) (t : List AV) (st : List TK) : Prop := ∀ F ρ w0 w a, w0.os = [] → St F ρ st w0 w → Fm F ρ st w a t → ∃ v r, (results fn a.tmps).run P w = .ok v w ∧ RepR F w0.w.heap.size w v r ∧ R r
def retP (P : Program) (fn : Func) (R : RS → Prop) : APost
  | .ret, t, st => ResA P fn R t st
  | .normal, t, st => ResA P fn R t st
  | _, _, _ => False
variable {fn : Func} {R : RS → Prop}
theorem res_eq (fn : Func) (tmps : Array Value) : results fn tmps = (do let vs ← fn.results.mapM (resRun tmps); pure (if h : vs.size = 1 then vs[0] else .tuple vs)) := by
  unfold results
  congr 1
theorem res1 {r1 : ResultVar} (hr : fn.results = #[r1]) (h1 : ResV P t st r1 z) (hz : setA st z = some y) (h : R (.s y)) : ResA P fn R t st := fun F ρ w0 w a h0 hs hm => by
  obtain ⟨v, g1, g2⟩ := h1.run hs hm
  refine ⟨v, .s y, ?_, setA_rep hs g2 hz, h⟩
  rw [res_eq, hr]
  simp [Sem.run_bind, g1]
theorem res1o {r1 : ResultVar} {k g : Nat} {el : TypeId} {sz : Nat} {xs : List (List AV)} (hr : fn.results = #[r1]) (h1 : ResV P t st r1 (.ow k g)) (hk : st[k]? = some ⟨g, .own el sz xs⟩) (h : R (.o el sz xs)) : ResA P fn R t st := fun F ρ w0 w a h0 hs hm => by
  obtain ⟨v, g1, g2⟩ := h1.run hs hm
  refine ⟨v, .o el sz xs, ?_, ⟨_, _, g2.ow_inv hk, hs.repOb h0 hk⟩, h⟩
  rw [res_eq, hr]
  simp [Sem.run_bind, g1]
theorem res0 (hr : fn.results = #[]) (h : R (.s (.tu []))) : ResA P fn R t st := fun F ρ w0 w a h0 hs hm => by
  refine ⟨.tuple #[], .s (.tu []), ?_, RepS.tu #[] [] rfl (by simp), h⟩
  rw [res_eq, hr]
  simp [Sem.run_bind]
theorem res2 {r1 r2 : ResultVar} {z1 z2 y1 y2 : AV} (hr : fn.results = #[r1, r2]) (h1 : ResV P t st r1 z1) (hz1 : setA st z1 = some y1) (h2 : ResV P t st r2 z2) (hz2 : setA st z2 = some y2) (h : R (.s (.tu [y1, y2]))) : ResA P fn R t st := fun F ρ w0 w a h0 hs hm => by
  obtain ⟨v1, g1, q1⟩ := h1.run hs hm
  obtain ⟨v2, g2, q2⟩ := h2.run hs hm
  refine ⟨.tuple #[v1, v2], .s (.tu [y1, y2]), ?_, RepS.tu #[v1, v2] [y1, y2] rfl (fun j v x hv hx => ?_), h⟩
  · rw [res_eq, hr]
    simp [Sem.run_bind, g1, g2]
  · match j with
    | 0 => simp at hv hx; subst hv hx; exact setA_rep hs q1 hz1
    | 1 => simp at hv hx; subst hv hx; exact setA_rep hs q2 hz2
    | j + 2 => simp at hx
theorem res3 {r1 r2 r3 : ResultVar} {z1 z2 z3 y1 y2 y3 : AV} (hr : fn.results = #[r1, r2, r3]) (h1 : ResV P t st r1 z1) (hz1 : setA st z1 = some y1) (h2 : ResV P t st r2 z2) (hz2 : setA st z2 = some y2) (h3 : ResV P t st r3 z3) (hz3 : setA st z3 = some y3) (h : R (.s (.tu [y1, y2, y3]))) : ResA P fn R t st := fun F ρ w0 w a h0 hs hm => by
  obtain ⟨v1, g1, q1⟩ := h1.run hs hm
  obtain ⟨v2, g2, q2⟩ := h2.run hs hm
  obtain ⟨v3, g3, q3⟩ := h3.run hs hm
  refine ⟨.tuple #[v1, v2, v3], .s (.tu [y1, y2, y3]), ?_, RepS.tu #[v1, v2, v3] [y1, y2, y3] rfl (fun j v x hv hx => ?_), h⟩
  · rw [res_eq, hr]
    simp [Sem.run_bind, g1, g2, g3]
  · match j with
    | 0 => simp at hv hx; subst hv hx; exact setA_rep hs q1 hz1
    | 1 => simp at hv hx; subst hv hx; exact setA_rep hs q2 hz2
    | 2 => simp at hv hx; subst hv hx; exact setA_rep hs q3 hz3
    | j + 3 => simp at hx

/-- A whole function. -/
theorem AC.of {f : FuncId} {c : Code} {args t0 : List AV} (nt : Nat) (hf : P.funcs[f]? = some fn) (hb : fn.body = some c) (ht : args ++ List.replicate (fn.ntmps - args.length) (AV.sc undef) = t0) (h : AW P c (retP P fn R) t0 (List.replicate nt (TK.mk 0 .off))) : AC P f args R := fun F w vs hsz hF hr => by
  subst ht
  refine calls_of_wp hf hb ?_
  have hoff : ∀ (k : Nat) (tk : TK), (List.replicate nt (TK.mk 0 .off))[k]? = some tk → tk = TK.mk 0 .off := fun k tk hk => List.eq_of_mem_replicate (List.mem_of_getElem? hk)
  have hs : St F (fun _ => (0, 0)) (List.replicate nt ⟨0, .off⟩) ⟨w, fun _ => (0, 0), []⟩ w := by
    refine ⟨Bel.refl ⟨w, fun _ => (0, 0), []⟩, hF, fun k g ty cs hk => ?_, fun k g el sz xs hk => ?_, fun k g p hk => ?_, fun k tk b hk hne => ?_, fun k tk k' tk' b hk hne => ?_, fun k tk0 h => by simp at h⟩
    · have := hoff k _ hk; injection this with _ this; cases this
    · have := hoff k _ hk; injection this with _ this; cases this
    · have := hoff k _ hk; injection this with _ this; cases this
    · rw [hoff k tk hk] at hne; exact False.elim hne
    · rw [hoff k tk hk] at hne; exact False.elim hne
  have hm : Fm F (fun _ => (0, 0)) (List.replicate nt ⟨0, .off⟩) w { tmps := vs ++ Array.replicate (fn.ntmps - vs.size) undef, defers := [] } (args ++ List.replicate (fn.ntmps - args.length) (.sc undef)) := by
    refine ⟨rfl, by simp [hsz], fun i v x hv hx => ?_⟩
    simp only [] at hv
    rcases Nat.lt_or_ge i vs.size with hi | hi
    · rw [Array.getElem?_append_left hi] at hv
      rw [List.getElem?_append_left (by omega)] at hx
      exact .s ((hr i v x hv hx).mono fun b _ hb => ⟨hb, fun k tk hk hne => by rw [hoff k tk hk] at hne; exact False.elim hne⟩)
    · rw [Array.getElem?_append_right hi] at hv
      rw [List.getElem?_append_right (by omega)] at hx
      have h1 := List.eq_of_mem_replicate (List.mem_of_getElem? hx)
      have h2 : v = undef := by
        have := Array.mem_of_getElem? hv
        exact (Array.eq_of_mem_replicate this)
      subst h1 h2
      exact .sc _
  refine wp_mono (h F _ _ w _ hs hm) fun e a' w' ⟨ρ', t', st', h1, h2, h3⟩ => ?_
  cases e with
  | ret =>
    obtain ⟨v, r, g1, g2, g3⟩ := h3 F ρ' _ w' a' rfl h1 h2
    exact ⟨h2.defers, v, g1, v, r, rfl, g2, h1.below.below rfl, g3⟩
  | normal =>
    obtain ⟨v, r, g1, g2, g3⟩ := h3 F ρ' _ w' a' rfl h1 h2
    exact ⟨h2.defers, v, g1, v, r, rfl, g2, h1.below.below rfl, g3⟩
  | _ => exact h3.elim

/-- Slots whose content plays no part any more. -/
inductive Wk : List AV → List AV → Prop
  | nil : Wk [] []
  | same {x : AV} {l m : List AV} (h : Wk l m) : Wk (x :: l) (x :: m)
  | any {x : AV} {l m : List AV} (h : Wk l m) : Wk (x :: l) (.any :: m)
theorem Wk.get {l m : List AV} (h : Wk l m) : l.length = m.length ∧ ∀ (i : Nat) x y, l[i]? = some x → m[i]? = some y → y = x ∨ y = .any := by
  induction h with
  | nil => simp
  | same h ih =>
    refine ⟨by simp [ih.1], fun i x y hx hy => ?_⟩
    cases i with
    | zero => simp at hx hy; subst hx hy; exact .inl rfl
    | succ i => exact ih.2 i x y (by simpa using hx) (by simpa using hy)
  | any h ih =>
    refine ⟨by simp [ih.1], fun i x y hx hy => ?_⟩
    cases i with
    | zero => simp at hx hy; subst hx hy; exact .inr rfl
    | succ i => exact ih.2 i x y (by simpa using hx) (by simpa using hy)
theorem Fm.wk {t' : List AV} (h : Fm F ρ st w a t) (hw : Wk t t') : Fm F ρ st w a t' := by
  obtain ⟨h1, h2⟩ := hw.get
  refine ⟨h.defers, h.size.trans h1, fun i v x hv hx => ?_⟩
  have hi : i < t.length := by rw [h1]; exact (List.getElem?_eq_some_iff.1 hx).1
  have hx' : t[i]? = some t[i] := List.getElem?_eq_getElem hi
  rcases h2 i _ x hx' hx with e | e
  · rw [e]; exact h.rep i v _ hv hx'
  · rw [e]; exact .any v
theorem AW.wk {c : Code} {Q : APost} {t' : List AV} (hw : Wk t t') (h : AW P c Q t' st) : AW P c Q t st := fun F ρ w0 w a hs hm => h F ρ w0 w a hs (hm.wk hw)
/-- A loop whose slots at the head are T k, its store S k. -/
theorem AW.loopT {c : Code} {Q : APost} {ι : Type} (T : ι → List AV) (S : ι → List TK) (μ : ι → Nat) (k : ι) (hw : Wk t (T k)) (hs : st = S k) (round : ∀ k, AW P c (thenA (fun t' st' => ∃ k', μ k' < μ k ∧ Wk t' (T k') ∧ st' = S k') Q) (T k) (S k)) : AW P (.loop c) Q t st := by
  subst hs
  refine AW.wk hw (AW.loop (fun n t st => ∃ k, μ k = n ∧ Wk t (T k) ∧ st = S k) (μ k) ⟨k, rfl, ?_, rfl⟩ fun n t st ⟨k, hk, hw, hs⟩ => ?_)
  · generalize T k = l
    induction l with
    | nil => exact .nil
    | cons x l ih => exact .same ih
  · subst hk hs
    refine AW.wk hw ((round k).mono fun e t st h => ?_)
    cases e with
    | normal => obtain ⟨k', h1, h2, h3⟩ := h; exact ⟨μ k', h1, k', rfl, h2, h3⟩
    | _ => exact h
end
end Go.Proofs.Ytgjpeldgjpgbcaa
