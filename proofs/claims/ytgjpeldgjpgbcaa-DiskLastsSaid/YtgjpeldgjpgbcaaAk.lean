/- The operations on abstract states, on: pointers that may be nil, arrays, own slices that may be nil, cells of boxes. No conditions. -/
import Derived.Test.YtgjpeldgjpgbcaaAj
import Derived.LoopN
import Derived.Lib.SlBytesConst
namespace Go.Proofs.Ytgjpeldgjpgbcaa
set_option linter.unusedSimpArgs false
set_option linter.unusedVariables false
open Go.RowKit

section
variable {P : Program} {o : Oper} {t : List AV} {st : List TK} {x y s : Operand} {K : AV → List TK → Prop} {F : Nat → Prop} {ρ : Loc} {w0 : Bs} {w : World}
/-! Pointers. -/
def isPt (P : Program) (t : TypeId) : Bool := match P.underlying t with | some (.pointer _) => true | _ => false
theorem pt_parts {xt : TypeId} (h : isPt P xt = true) : ∃ e, P.underlying xt = some (.pointer e) := by
  unfold isPt at h
  split at h
  · rename_i e hu; exact ⟨e, hu⟩
  · cases h
theorem rd_nilc_bx {k g off : Nat} {c : TC} (ho : o.op = .nilCheck x) (hx : evA t x = .bx k g off) (hk : st[k]? = some ⟨g, c⟩) (hc : c.isB = true := by rfl) : ARd P o t st (.bx k g off) := fun F ρ w0 w a hs hm => by
  have h := hm.ev x
  rw [hx] at h
  have hv := h.bx_invB hk hc
  refine ⟨_, h, fun w' _ => ?_⟩
  simp only [execOp, ho, hv]
  rfl
theorem rd_nilc_ep {cs : List AV} {off : Nat} (ho : o.op = .nilCheck x) (hx : evA t x = .ep cs off) : ARd P o t st (.ep cs off) := fun F ρ w0 w a hs hm => by
  have h := hm.ev x
  rw [hx] at h
  refine ⟨_, h, fun w' _ => ?_⟩
  generalize hq : a.eval x = q at *
  cases h with
  | s h => cases h
  | ep b base _ _ V h0 hf hv h1 hr =>
    simp only [execOp, ho, hq]
    rfl
theorem run_pnil {xt : TypeId} {e : TypeId} (hu : P.underlying xt = some (.pointer e)) (p : Option Addr) (w : World) : (Op.equal xt (.pointer p) (.pointer none)).run P w = .ok p.isNone w := by
  unfold Op.equal Op.maxDepth
  rw [show (10000 : Nat) = 9999 + 1 from rfl]
  unfold Op.equalIn
  simp only [Sem.run_bind, run_underlying hu, Result.andThen_ok]
  cases p <;> rfl
theorem rd_peq_bx {xt yt : TypeId} {k g off : Nat} {c : TC} (ho : o.op = .binOp .eql xt x y yt) (hT : isPt P xt = true) (hx : evA t x = .bx k g off) (hk : st[k]? = some ⟨g, c⟩) (hy : evV t y = some (.pointer none)) (hc : c.isB = true := by rfl) : ARd P o t st (.sc (.bool false)) := fun F ρ w0 w a hs hm => by
  obtain ⟨e, hu⟩ := pt_parts hT
  have h := hm.ev x
  rw [hx] at h
  have hv := h.bx_invB hk hc
  refine ⟨_, .sc _, fun w' _ => ?_⟩
  simp [execOp, ho, hv, hm.val hy, eqGuard, binOp, Sem.run_bind, run_pnil hu]
theorem rd_pne_bx {xt yt : TypeId} {k g off : Nat} {c : TC} (ho : o.op = .binOp .neq xt x y yt) (hT : isPt P xt = true) (hx : evA t x = .bx k g off) (hk : st[k]? = some ⟨g, c⟩) (hy : evV t y = some (.pointer none)) (hc : c.isB = true := by rfl) : ARd P o t st (.sc (.bool true)) := fun F ρ w0 w a hs hm => by
  obtain ⟨e, hu⟩ := pt_parts hT
  have h := hm.ev x
  rw [hx] at h
  have hv := h.bx_invB hk hc
  refine ⟨_, .sc _, fun w' _ => ?_⟩
  simp [execOp, ho, hv, hm.val hy, eqGuard, binOp, Sem.run_bind, run_pnil hu]
theorem rd_peq_nil {xt yt : TypeId} (ho : o.op = .binOp .eql xt x y yt) (hT : isPt P xt = true) (hx : evV t x = some (.pointer none)) (hy : evV t y = some (.pointer none)) : ARd P o t st (.sc (.bool true)) := fun F ρ w0 w a hs hm => by
  obtain ⟨e, hu⟩ := pt_parts hT
  refine ⟨_, .sc _, fun w' _ => ?_⟩
  simp [execOp, ho, hm.val hx, hm.val hy, eqGuard, binOp, Sem.run_bind, run_pnil hu]
theorem rd_pne_nil {xt yt : TypeId} (ho : o.op = .binOp .neq xt x y yt) (hT : isPt P xt = true) (hx : evV t x = some (.pointer none)) (hy : evV t y = some (.pointer none)) : ARd P o t st (.sc (.bool false)) := fun F ρ w0 w a hs hm => by
  obtain ⟨e, hu⟩ := pt_parts hT
  refine ⟨_, .sc _, fun w' _ => ?_⟩
  simp [execOp, ho, hm.val hx, hm.val hy, eqGuard, binOp, Sem.run_bind, run_pnil hu]

/-! Arrays. -/
def arT (P : Program) (T : TypeId) : Option (Nat × TypeId × Nat) := match P.underlying T with | some (.array n e) => (P.info? e).map fun i => (n, e, i.size) | _ => none
theorem ar_parts {T n e sz : Nat} (h : arT P T = some (n, e, sz)) : P.underlying T = some (.array n e) ∧ ∃ i, P.info? e = some i ∧ i.size = sz := by
  unfold arT at h
  split at h
  · rename_i n' e' hu
    cases hi : P.info? e' with
    | none => rw [hi] at h; cases h
    | some i =>
      rw [hi] at h
      simp at h
      obtain ⟨rfl, rfl, rfl⟩ := h
      exact ⟨hu, i, hi, rfl⟩
  · cases h
theorem rd_iaddr_bx {T n e sz k g off i bt : Nat} {ik : IntKind} {I : Int} {cs : List AV} (ho : o.op = .indexAddr T x y) (hT : arT P T = some (n, e, sz)) (hx : evA t x = .bx k g off) (hk : st[k]? = some ⟨g, .box bt cs⟩) (hy : evV t y = some (.int ik I)) (hI : I = (i : Int)) (hi : i < n) : ARd P o t st (.bx k g (off + i * sz)) := fun F ρ w0 w a hs hm => by
  obtain ⟨hu, inf, hi1, hi2⟩ := ar_parts hT
  subst hI
  have h := hm.ev x
  rw [hx] at h
  have hv := h.bx_inv hk
  refine ⟨.pointer (some ⟨(ρ k).1, off + i * sz, none⟩), .bx k g _ bt cs hk, fun w' _ => ?_⟩
  have hin : (i : Int) < n := by omega
  simp only [execOp, ho, Instr.indexAt, hv, hm.val hy, Sem.run_bind, asIntOf, Sem.run_pure, Result.andThen_ok, run_underlying hu, Instr.sureAddr]
  simp [hin, sizeOf, typeInfo, hi1, hi2, Addr.add_mid]
theorem rd_index_ag {T n e sz i : Nat} {ik : IntKind} {I : Int} {cs : List AV} {z : AV} (ho : o.op = .index T x y) (hT : arT P T = some (n, e, sz)) (hE : agN P e = some none) (hx : evA t x = .ag cs) (hy : evV t y = some (.int ik I)) (hI : I = (i : Int)) (hi : i < n) (hz : cs[i * sz]? = some z) : ARd P o t st z := fun F ρ w0 w a hs hm => by
  obtain ⟨hu, inf, hi1, hi2⟩ := ar_parts hT
  subst hI
  have h := hm.ev x
  rw [hx] at h
  obtain ⟨vs, hv, h1, h2, h3⟩ := h.ag_inv
  have hlt : i * sz < vs.size := by rw [h1]; exact (List.getElem?_eq_some_iff.1 hz).1
  have hvo := Array.getElem?_eq_getElem hlt
  refine ⟨_, h3 _ _ z hvo hz, fun w' _ => ?_⟩
  have hin : (i : Int) < n := by omega
  have hagg : (isAgg e).run P w' = .ok false w' := by
    unfold agN at hE
    unfold isAgg
    rw [Sem.run_bind]
    cases hu : P.underlying e with
    | none => rw [hu] at hE; cases hE
    | some d =>
      rw [run_underlying hu w']
      rw [hu] at hE
      cases d <;> simp_all
  simp only [execOp, ho, Instr.index, hv, hm.val hy, Sem.run_bind, asIntOf, Sem.run_pure, Result.andThen_ok, run_underlying hu]
  simp [hin, sizeOf, typeInfo, hi1, hi2, part, Sem.run_bind, hagg, hvo]

/-! min, max. -/
theorem rd_min {Ts : Array TypeId} {k k' : IntKind} {a b r : Int} (ho : o.op = .call { callee := .builtin .min, args := #[x, y], argTypes := Ts }) (hx : evV t x = some (.int k a)) (hy : evV t y = some (.int k' b)) (hr : (if b < a then b else a) = r) : ARd P o t st (.sc (.int k r)) := fun F ρ w0 w a' hs hm => ⟨_, .sc _, fun w' _ => by
  subst hr
  simp only [execOp, ho, resolve, invoke, builtin, Sem.run_bind, Sem.run_pure, Result.andThen_ok, List.map_toArray, List.map_cons, List.map_nil, hm.val hx, hm.val hy, Builtin.min_, List.foldlM_cons, List.foldlM_nil, Builtin.min2]⟩
theorem rd_max {Ts : Array TypeId} {k k' : IntKind} {a b r : Int} (ho : o.op = .call { callee := .builtin .max, args := #[x, y], argTypes := Ts }) (hx : evV t x = some (.int k a)) (hy : evV t y = some (.int k' b)) (hr : (if a < b then b else a) = r) : ARd P o t st (.sc (.int k r)) := fun F ρ w0 w a' hs hm => ⟨_, .sc _, fun w' _ => by
  subst hr
  simp only [execOp, ho, resolve, invoke, builtin, Sem.run_bind, Sem.run_pure, Result.andThen_ok, List.map_toArray, List.map_cons, List.map_nil, hm.val hx, hm.val hy, Builtin.max_, List.foldlM_cons, List.foldlM_nil, Builtin.max2]⟩

/-! A loop, round by round. -/
theorem rounds_mono {Q : Exit → Act → World → Prop} {c : Code} : ∀ n a w, Code.rounds P c Q n a w → Code.rounds P c Q (n + 1) a w
  | 0, _, _, h => h.elim
  | n + 1, a, w, h => wp_mono h fun e a' w' hq => by
    cases e with
    | normal => exact rounds_mono n a' w' hq
    | _ => exact hq
/-- The loop ends within n rounds. -/
def AWn (P : Program) (c : Code) (Q : APost) : Nat → List AV → List TK → Prop
  | 0, _, _ => False
  | n + 1, t, st => AW P c (thenA (AWn P c Q n) Q) t st
theorem AW.unroll {c : Code} {Q : APost} (n : Nat) (h : AWn P c Q n t st) : AW P (.loop c) Q t st := fun F ρ w0 w a hs hm => by
  refine wp_loop_rounds n ?_
  have key : ∀ n t st ρ w a, AWn P c Q n t st → St F ρ st w0 w → Fm F ρ st w a t → Code.rounds P c (CP F Q w0) n a w := by
    intro n
    induction n with
    | zero => intro t st ρ w a h _ _; exact h.elim
    | succ n ih =>
      intro t st ρ w a h hs hm
      rw [rounds_succ]
      refine wp_mono (h F ρ w0 w a hs hm) fun e a' w' ⟨ρ', t', st', h1, h2, h3⟩ => ?_
      cases e with
      | normal => exact ih t' st' ρ' w' a' h3 h1 h2
      | _ => exact ⟨ρ', t', st', h1, h2, h3⟩
  exact key n t st ρ w a h hs hm

/-! Tickets that change without the world. -/
theorem St.nown (hs : St F ρ st w0 w) {k : Nat} {tk : TK} (hk : st[k]? = some tk) (el sz : Nat) : St F ρ (st.set k ⟨tk.g + 1, .nown el sz⟩) w0 w ∧ Mv F ρ st w ρ (st.set k ⟨tk.g + 1, .nown el sz⟩) w := by
  have hmv : Mv F ρ st w ρ (st.set k ⟨tk.g + 1, .nown el sz⟩) w := Mv.upd hk (fun _ _ => rfl) (fun b o hf ho => ⟨fun h => h, ho⟩) (.inr (.inl (Nat.lt_succ_self _)))
  exact ⟨hs.upd hk (fun _ _ => rfl) hs.below (Nat.le_refl _) hmv (fun _ _ _ _ _ _ => rfl) (fun b hf => hf.elim) (fun j q b hj hq hf hf' => hf') (fun ty cs e => by cases e) (fun el' sz' xs' e => by cases e) (fun p e => by cases e), hmv⟩
/-- A box's cells, told otherwise, over the world as it is. -/
theorem St.reboxW (hs : St F ρ st w0 w) {k g : Nat} {ty : TypeId} {cs cs' : List AV} (hk : st[k]? = some ⟨g, .box ty cs⟩) (vs : Array Value) (h1 : w.heap[(ρ k).1]? = some (.cells vs ty (0, 0))) (h2 : vs.size = cs'.length) (h3 : ∀ v ∈ vs, v.oneCell' = true) (h4 : ∀ (j : Nat) v x, vs[j]? = some v → cs'[j]? = some x → Rep F ρ st w v x) :
    St F ρ (st.set k ⟨g, .box ty cs'⟩) w0 w ∧ Mv F ρ st w ρ (st.set k ⟨g, .box ty cs'⟩) w := by
  have hmv : Mv F ρ st w ρ (st.set k ⟨g, .box ty cs'⟩) w := Mv.upd hk (fun _ _ => rfl) (fun b o hf ho => ⟨fun h => hf.2 k _ hk h, ho⟩) (.inr (.inr (.inr ⟨rfl, rfl, rfl, rfl⟩)))
  refine ⟨hs.upd hk (fun _ _ => rfl) hs.below (Nat.le_refl _) hmv (fun _ _ _ _ _ _ => rfl) (fun b hf => hs.ge k _ b hk hf) (fun j q b hj hq hf hf' => hj (hs.inj j q k _ b hq hf hk hf')) (fun ty' cs1 e => ?_) (fun el' sz' xs' e => by cases e) (fun p e => by cases e), hmv⟩
  injection e with e1 e2
  subst e1 e2
  exact ⟨vs, h1, h2, h3, fun j v x hv hx => (h4 j v x hv hx).mv hmv⟩
/-- The cells of a box, told otherwise. -/
theorem St.rebox (hs : St F ρ st w0 w) {k g : Nat} {ty : TypeId} {cs cs' : List AV} (hk : st[k]? = some ⟨g, .box ty cs⟩) (hl : cs'.length = cs.length) (hr : ∀ (j : Nat) v x x', cs[j]? = some x → cs'[j]? = some x' → Rep F ρ st w v x → Rep F ρ st w v x') :
    St F ρ (st.set k ⟨g, .box ty cs'⟩) w0 w ∧ Mv F ρ st w ρ (st.set k ⟨g, .box ty cs'⟩) w := by
  obtain ⟨vs, h1, h2, h3, h4⟩ := hs.box k _ _ cs hk
  refine hs.reboxW hk vs h1 (by omega) h3 fun i v x hv hx => ?_
  have hi : i < cs.length := by rw [← hl]; exact (List.getElem?_eq_some_iff.1 hx).1
  exact hr i v _ x (List.getElem?_eq_getElem hi) hx (h4 i v _ hv (List.getElem?_eq_getElem hi))
/-- A cell of a box that is nil, as an own slice that will grow. -/
theorem AL.nilbx {ops : Array Oper} {K : List AV → List TK → Prop} {l : List Oper} (kb off k : Nat) {tk : TK} (el sz : Nat) {g : Nat} {ty : TypeId} {cs : List AV} (hb : st[kb]? = some ⟨g, .box ty cs⟩) (hc : cs[off]? = some (.sc (.slice none 0 0))) (hk : st[k]? = some tk) (hne : kb ≠ k)
    (h : AL P ops K l t ((st.set k ⟨tk.g + 1, .nown el sz⟩).set kb ⟨g, .box ty (cs.set off (.ow k (tk.g + 1)))⟩)) : AL P ops K l t st := fun F ρ w0 w a hs hm => by
  have hklt := (List.getElem?_eq_some_iff.1 hk).1
  obtain ⟨hs1, hm1⟩ := hs.nown hk el sz
  have hb1 : (st.set k ⟨tk.g + 1, .nown el sz⟩)[kb]? = some ⟨g, .box ty cs⟩ := by rw [List.getElem?_set_ne (fun e => hne e.symm)]; exact hb
  obtain ⟨hs2, hm2⟩ := hs1.rebox hb1 (cs' := cs.set off (.ow k (tk.g + 1))) (by simp) (fun j v x x' hx hx' hr => by
    rw [List.getElem?_set] at hx'
    split at hx'
    · rename_i e
      subst e
      rw [hc] at hx
      injection hx with hx
      subst hx
      split at hx'
      · injection hx' with hx'
        subst hx'
        obtain rfl := hr.of_sc
        exact .ow0 k _ el sz (by rw [List.getElem?_set_self hklt])
      · cases hx'
    · rw [hx] at hx'
      injection hx' with hx'
      subst hx'
      exact hr)
  exact h F ρ w0 w a hs2 ((hm.mv hm1).mv hm2)

/-! An own slice that may be nil while it is empty. -/
def owM (b : Bool) (el sz : Nat) : List (List AV) → TC
  | [] => if b then .nown el sz else .own el sz []
  | x :: xs => .own el sz (x :: xs)
theorem owM_f (el sz : Nat) (xs : List (List AV)) : owM false el sz xs = .own el sz xs := by cases xs <;> rfl
def cont : TC → Option (List (List AV))
  | .own _ _ xs => some xs
  | .nown _ _ => some []
  | _ => none
theorem cont_owM (b : Bool) (el sz : Nat) (xs : List (List AV)) : cont (owM b el sz xs) = some xs := by cases xs <;> cases b <;> rfl
theorem live_owM {k g : Nat} {b : Bool} {el sz : Nat} {xs : List (List AV)} (hk : st[k]? = some ⟨g, owM b el sz xs⟩) : liveA st (.ow k g) = true := by
  cases xs <;> cases b <;> simp [liveA, hk, owM, TC.isO]
theorem isO_owM (b : Bool) (el sz : Nat) (xs : List (List AV)) : (owM b el sz xs).isO = true := by cases xs <;> cases b <;> rfl
theorem renC_owM (ks : List Nat) (b : Bool) (el sz : Nat) (xs : List (List AV)) : renC ks (owM b el sz xs) = owM b el sz xs := by cases xs <;> cases b <;> rfl
theorem rd_len_owM {T e el n k g sz : Nat} {b : Bool} {xs : List (List AV)} (ho : o.op = .call { callee := .builtin .len, args := #[x], argTypes := #[T] }) (hT : elT P T = some (e, n)) (hx : evA t x = .ow k g) (hk : st[k]? = some ⟨g, owM b el sz xs⟩) : ARd P o t st (.sc (.int .i64 xs.length)) := by
  cases xs with
  | nil =>
    cases b with
    | true => exact rd_len_ow0 ho hT hx hk
    | false => exact rd_len_ow ho hT hx hk
  | cons z zs => exact rd_len_ow ho hT hx hk
theorem src_ow0 {k g sz el sz' : Nat} (hx : evA t x = .ow k g) (hk : st[k]? = some ⟨g, .nown el sz'⟩) : Src t st x sz [] := fun F ρ w0 w a hs hm => by
  have h := hm.ev x
  rw [hx] at h
  exact ⟨none, 0, [], h.ow0_inv hk, by simp, by simp, fun i j cs v z h => by simp at h, fun i cs h => by simp at h, fun _ => rfl, fun j v h => by simp at h⟩
theorem src_owM {k g sz el : Nat} {b : Bool} {ys : List (List AV)} (hx : evA t x = .ow k g) (hk : st[k]? = some ⟨g, owM b el sz ys⟩) : Src t st x sz ys := by
  cases ys with
  | nil =>
    cases b with
    | true => exact src_ow0 hx hk
    | false => exact src_ow hx hk
  | cons z zs => exact src_ow hx hk
/-- append of nothing onto nil. -/
theorem op_append00 {T e k g sz by_ : Nat} {el sz' : Nat} (ho : o.op = .call { callee := .builtin .append, args := #[s, x], argTypes := #[T, T] }) (hT : apI P T = some (e, sz, by_)) (hs : evA t s = .ow k g) (hk : st[k]? = some ⟨g, .nown el sz'⟩) (hx : Src t st x sz [])
    (h : K (.ow k (g + 1)) (st.set k ⟨g + 1, .nown el sz'⟩)) : AOp P o t st K := fun F ρ w0 w a hst hm next Q hn => by
  obtain ⟨hu, hpos, i, z, hi, hz0, hz1, hz2, hz⟩ := ap_parts hT
  obtain ⟨A, c, news, he, hn1, hn2, hn3, hn4, hn5, hn6⟩ := hx F ρ w0 w a hst hm
  have hv := hm.ev s
  rw [hs] at hv
  have hv := hv.ow0_inv hk
  have hrun : (Builtin.append_ #[T, T] o.type #[.slice none 0 0, .slice A 0 c]).run P w = .ok (.slice none 0 0) w := by
    cases A <;> simp [Builtin.append_, run_underlying hu, sizeOf, typeInfo, hi, Builtin.lenOf, Builtin.firstCells, storeCells, loadCells, loadCellsFrom]
  have hrun2 : (execOp a.eval o).run P w = .ok (.value (.slice none 0 0)) w := by
    simp only [execOp, ho, resolve, invoke, builtin, Sem.run_bind, Sem.run_pure, Result.andThen_ok, List.map_toArray, List.map_cons, List.map_nil, hv, he, List.length_nil, hrun]
  unfold Oper.wp
  rw [hrun2]
  obtain ⟨hs', hmv⟩ := hst.nown hk el sz'
  exact hn _ w ρ _ _ hs' hmv (.ow0 k (g + 1) el sz' (by rw [List.getElem?_set_self (List.getElem?_eq_some_iff.1 hk).1])) h
theorem op_appendM {T e k g sz by_ : Nat} {b : Bool} {xs ys : List (List AV)} (ho : o.op = .call { callee := .builtin .append, args := #[s, x], argTypes := #[T, T] }) (hT : apI P T = some (e, sz, by_)) (hs : evA t s = .ow k g) (hk : st[k]? = some ⟨g, owM b e sz xs⟩) (hx : Src t st x sz ys) (hsz : (xs.length + ys.length) * by_ ≤ 140737488355328) (hml : xs.length + ys.length ≤ 9223372036854775807)
    (h : K (.ow k (g + 1)) (st.set k ⟨g + 1, owM b e sz (xs ++ ys)⟩)) : AOp P o t st K := by
  cases xs with
  | nil =>
    cases b with
    | true =>
      cases ys with
      | nil => exact op_append00 ho hT hs hk hx h
      | cons y ys => exact AOpB.op (op_append0 (tk := ⟨g, .nown e sz⟩) k ho hT (.inl ⟨e, sz, hs, rfl⟩) hk hx (by simp) (by simpa using hsz) (by simpa using hml) h)
    | false =>
      refine op_append ho hT hs hk hx hsz hml ?_
      rw [owM_f] at h
      exact h
  | cons z zs => exact op_append ho hT hs hk hx hsz hml h
/-- A beginning of an own slice. -/
theorem op_slice_ow {T e el k g sz n : Nat} {xs : List (List AV)} {hi : Operand} {ik : IntKind} {I : Int} (ho : o.op = .slice T x none (some hi) none) (hT : elT P T = some (e, sz)) (hx : evA t x = .ow k g) (hk : st[k]? = some ⟨g, .own el sz xs⟩) (hy : evV t hi = some (.int ik I)) (hI : I = (n : Int)) (hn : n ≤ xs.length)
    (h : K (.ow k (g + 1)) (st.set k ⟨g + 1, .own el sz (xs.take n)⟩)) : AOpB P o t st K := fun F ρ w0 w a hst hm next Q hnx => by
  subst hI
  have hv := hm.ev x
  rw [hx] at hv
  have hv := hv.ow_inv hk
  obtain ⟨hu, inf, hi1, hi2⟩ := el_under hT
  obtain ⟨vs, h1, h2, h3, h4, h5⟩ := hst.own k g el sz xs hk
  have hform := own_form' h1
  have hge := hst.geB k _ hk (by simp)
  have hown : w.ownsRow 0 el sz (.slice (some ⟨(ρ k).1, 0, none⟩) (xs.take n).length (ρ k).2) (xs.take n).length (vs.take (n * sz)) := by
    have hlen : (xs.take n).length = n := by simp; omega
    rw [hlen]
    refine ⟨by rw [List.length_take, h1.1]; exact Nat.min_eq_left (Nat.mul_le_mul_right _ hn), ?_⟩
    rcases h1.2 with ⟨a1, _⟩ | ⟨g', cap, cur, a1, a2, a3, a4, a5, a6, a7⟩
    · cases a1
    · injection a1 with b1 b2 b3
      injection b1 with b1
      injection b1 with b1
      subst b1 b3
      refine .inr ⟨_, _, cur, rfl, a2, a3, by omega, a5, a6, ?_⟩
      rw [← a7, List.take_take]
      congr 1
      exact (Nat.min_eq_left (Nat.mul_le_mul_right _ hn)).symm
  obtain ⟨ρ', hρ, hs', hmv⟩ := hst.regrow (row := none) hk (fun b e => by cases e) (World.grownBy.refl w none) (.inl ⟨by simp, rfl⟩) hge.2 el sz (ρ k).2 (xs.take n) ⟨_, hown, h2, fun v hv => h3 v (List.mem_of_mem_take hv), fun i cs hc => h4 i cs (by rw [List.getElem?_take] at hc; split at hc; exact hc; cases hc), fun i j cs v x hc hx hvv => h5 i j cs v x (by rw [List.getElem?_take] at hc; split at hc; exact hc; cases hc) hx (by rw [List.getElem?_take] at hvv; split at hvv; exact hvv; cases hvv)⟩
  have hnc : (n : Int) ≤ ((ρ k).2 : Int) := by omega
  have hrun : (execOp a.eval o).run P w = .ok (.value (.slice (some ⟨(ρ k).1, 0, none⟩) (xs.take n).length (ρ k).2)) w := by
    have hlen : (xs.take n).length = n := by simp; omega
    rw [hlen]
    have e0 : (⟨(ρ k).1, 0, none⟩ : Addr).add 0 = ⟨(ρ k).1, 0, none⟩ := by rw [Addr.add_mid]
    simp only [execOp, ho, Instr.sliceAt, Instr.slice, hv, Sem.run_bind, run_underlying hu, Result.andThen_ok, Option.map_none, Option.map_some, hm.val hy, Instr.sliceBounds, Instr.sliceBound, asIntOf, Sem.run_pure]
    simp [hnc, Sem.run_bind, sizeOf, typeInfo, hi1, hi2, e0]
  unfold Oper.wp
  rw [hrun]
  have hk2 : (st.set k ⟨g + 1, .own el sz (xs.take n)⟩)[k]? = some ⟨g + 1, .own el sz (xs.take n)⟩ := by rw [List.getElem?_set_self (List.getElem?_eq_some_iff.1 hk).1]
  have hrep := Rep.ow (F := F) (ρ := ρ') (w := w) k (g + 1) el sz (xs.take n) hk2
  rw [hρ] at hrep
  exact hnx _ w ρ' _ _ hs' hmv hrep (Below.refl _ _) h
theorem op_slice_ow0 {T e el k g sz sz' : Nat} {hi : Operand} {ik : IntKind} (ho : o.op = .slice T x none (some hi) none) (hT : elT P T = some (e, sz)) (hx : evA t x = .ow k g) (hk : st[k]? = some ⟨g, .nown el sz'⟩) (hy : evV t hi = some (.int ik 0))
    (h : K (.ow k (g + 1)) (st.set k ⟨g + 1, .nown el sz'⟩)) : AOpB P o t st K := fun F ρ w0 w a hst hm next Q hnx => by
  have hv := hm.ev x
  rw [hx] at hv
  have hv := hv.ow0_inv hk
  obtain ⟨hu, inf, hi1, hi2⟩ := el_under hT
  have hrun : (execOp a.eval o).run P w = .ok (.value (.slice none 0 0)) w := by
    simp only [execOp, ho, Instr.sliceAt, Instr.slice, hv, Sem.run_bind, run_underlying hu, Result.andThen_ok, Option.map_none, Option.map_some, hm.val hy, Instr.sliceBounds, Instr.sliceBound, asIntOf, Sem.run_pure]
    simp [Sem.run_bind, sizeOf, typeInfo, hi1, hi2]
  unfold Oper.wp
  rw [hrun]
  obtain ⟨hs', hmv⟩ := hst.nown hk el sz'
  exact hnx _ w ρ _ _ hs' hmv (.ow0 k (g + 1) el sz' (by rw [List.getElem?_set_self (List.getElem?_eq_some_iff.1 hk).1])) (Below.refl _ _) h
theorem op_sliceM {T e el k g sz n : Nat} {b : Bool} {xs : List (List AV)} {hi : Operand} {ik : IntKind} {I : Int} (ho : o.op = .slice T x none (some hi) none) (hT : elT P T = some (e, sz)) (hx : evA t x = .ow k g) (hk : st[k]? = some ⟨g, owM b el sz xs⟩) (hy : evV t hi = some (.int ik I)) (hI : I = (n : Int)) (hn : n ≤ xs.length)
    (h : K (.ow k (g + 1)) (st.set k ⟨g + 1, owM (b && xs.isEmpty) el sz (xs.take n)⟩)) : AOpB P o t st K := by
  cases xs with
  | nil =>
    cases b with
    | true =>
      have h0 : n = 0 := by simpa using hn
      subst h0 hI
      exact op_slice_ow0 ho hT hx hk hy (by simpa [owM] using h)
    | false => exact op_slice_ow ho hT hx hk hy hI hn (by simpa [owM] using h)
  | cons z zs =>
    refine op_slice_ow ho hT hx hk hy hI hn ?_
    rw [show (b && (z :: zs).isEmpty) = false by simp, owM_f] at h
    exact h

/-! An own slice is settled. -/
theorem St.settle (hs : St F ρ st w0 w) {k g : Nat} {tc : TC} {xs : List (List AV)} (hk : st[k]? = some ⟨g, tc⟩) (hc : cont tc = some xs) : St F ρ (st.set k ⟨g, .off⟩) w0 w ∧ Mv F ρ st w ρ (st.set k ⟨g, .off⟩) w ∧ ∀ v, Rep F ρ st w v (.ow k g) → Rep F ρ (st.set k ⟨g, .off⟩) w v (.sl xs) := by
  have hklt := (List.getElem?_eq_some_iff.1 hk).1
  have hmv : Mv F ρ st w ρ (st.set k ⟨g, .off⟩) w := Mv.upd hk (fun _ _ => rfl) (fun b o hf ho => ⟨fun h => h, ho⟩) (.inr (.inr (.inl ⟨rfl, rfl⟩)))
  have hfr : ∀ b, Free F ρ st b → Free F ρ (st.set k ⟨g, .off⟩) b := fun b hf => ⟨hf.1, fun j q hq hb => by
    rcases get_set hklt hq with ⟨rfl, rfl⟩ | ⟨_, h'⟩
    · exact hb
    · exact hf.2 j q h' hb⟩
  refine ⟨hs.upd hk (fun _ _ => rfl) hs.below (Nat.le_refl _) hmv (fun _ _ _ _ _ _ => rfl) (fun b hf => hf.elim) (fun j q b hj hq hf hf' => hf') (fun ty cs e => by cases e) (fun el' sz' xs' e => by cases e) (fun p e => by cases e), hmv, fun v hr => ?_⟩
  · cases tc with
    | own el sz ys =>
      injection hc with hc
      subst hc
      rw [hr.ow_inv hk]
      obtain ⟨vs, h1, h2, h3, h4, h5⟩ := hs.own k _ el sz _ hk
      have hge := hs.geB k _ hk (by simp)
      refine .s (RepO.sl (base := 0) (el := el) ⟨vs, h1, h2, h3, h4, fun i j cs v x a b c => (h5 i j cs v x a b c).mono fun b _ hb => ⟨hfr b hb, fun e => hb.ne k _ hk (by simp) e.symm⟩⟩ ⟨hge.1.2, fun j tk hj hb => ?_⟩)
      rcases get_set hklt hj with ⟨rfl, rfl⟩ | ⟨hne, hj'⟩
      · exact hb
      · exact hne (hs.inj j tk k _ _ hj' hb hk rfl)
    | nown el sz =>
      injection hc with hc
      subst hc
      rw [hr.ow0_inv hk]
      exact .s (.sl0 _ _ (Nat.zero_le _))
    | _ => simp [cont] at hc
theorem AL.settle {ops : Array Oper} {K : List AV → List TK → Prop} {l : List Oper} (d : Nat) {k g : Nat} {tc : TC} {xs : List (List AV)} (hd : t[d]? = some (.ow k g)) (hk : st[k]? = some ⟨g, tc⟩) (hc : cont tc = some xs) (h : AL P ops K l (t.set d (.sl xs)) (st.set k ⟨g, .off⟩)) : AL P ops K l t st := fun F ρ w0 w a hs hm => by
  obtain ⟨h1, h2, h3⟩ := hs.settle hk hc
  refine h F ρ w0 w a h1 ?_
  have hm' := hm.mv h2
  refine ⟨hm'.defers, by simp [hm'.size], fun i v x hv hx => ?_⟩
  rw [List.getElem?_set] at hx
  split at hx
  · rename_i e
    subst e
    split at hx
    · injection hx with hx
      subst hx
      exact h3 v (hm.rep _ v _ hv hd)
    · cases hx
  · exact hm'.rep i v x hv hx
/-- A box's cell: its own slice is settled. -/
theorem AL.settlebx {ops : Array Oper} {K : List AV → List TK → Prop} {l : List Oper} (kb off : Nat) {k g gb : Nat} {tc : TC} {ty : TypeId} {cs : List AV} {xs : List (List AV)} (hb : st[kb]? = some ⟨gb, .box ty cs⟩) (hd : cs[off]? = some (.ow k g)) (hk : st[k]? = some ⟨g, tc⟩) (hc : cont tc = some xs)
    (h : AL P ops K l t ((st.set k ⟨g, .off⟩).set kb ⟨gb, .box ty (cs.set off (.sl xs))⟩)) : AL P ops K l t st := fun F ρ w0 w a hs hm => by
  have hne : kb ≠ k := fun e => by subst e; rw [hb] at hk; injection hk with hk; injection hk with _ hk; subst hk; simp [cont] at hc
  obtain ⟨h1, h2, h3⟩ := hs.settle hk hc
  have hb1 : (st.set k ⟨g, .off⟩)[kb]? = some ⟨gb, .box ty cs⟩ := by rw [List.getElem?_set_ne (fun e => hne e.symm)]; exact hb
  -- the box's cells over the old store
  obtain ⟨vs, b1, b2, b3, b4⟩ := hs.box kb gb ty cs hb
  have key := h1.reboxW (cs' := cs.set off (.sl xs)) hb1 vs b1 (by simpa using b2) b3 (fun i v x hv hx => by
    rw [List.getElem?_set] at hx
    split at hx
    · rename_i e
      subst e
      split at hx
      · injection hx with hx
        subst hx
        exact h3 v (b4 _ v _ hv hd)
      · cases hx
    · exact (b4 i v x hv hx).mv h2)
  exact h F ρ w0 w a key.1 ((hm.mv h2).mv key.2)
end
end Go.Proofs.Ytgjpeldgjpgbcaa
