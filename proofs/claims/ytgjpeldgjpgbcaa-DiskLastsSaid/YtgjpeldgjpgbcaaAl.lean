/- Regions of drawn order that change tickets: reads that stand whatever becomes of tickets are taken first, what is left comes up in every order. No conditions. -/
import Derived.Test.YtgjpeldgjpgbcaaAk
namespace Go.Proofs.Ytgjpeldgjpgbcaa
set_option linter.unusedSimpArgs false
set_option linter.unusedVariables false
open Go.RowKit

/-- A read whose value stands whatever becomes of tickets; whatever becomes of the world. -/
def ARdA (P : Program) (o : Oper) (t : List AV) (st : List TK) (x : AV) : Prop := ∀ F ρ w0 w a, St F ρ st w0 w → Fm F ρ st w a t → ∃ v, Rep F ρ st w v x ∧ ∀ w', Bel ⟨w, ρ, st⟩ w' → (execOp a.eval o).run P w' = .ok (.value v) w'
def ARdP (P : Program) (o : Oper) (t : List AV) (st : List TK) (x : AV) : Prop := ∀ F ρ w0 w a, St F ρ st w0 w → Fm F ρ st w a t → ∃ v, Rep F ρ st w v x ∧ ∀ w', (execOp a.eval o).run P w' = .ok (.value v) w'
section
variable {P : Program} {o : Oper} {t : List AV} {st : List TK} {x y s c : Operand} {vx vy v : Value} {z z' : AV} {zs : List AV} {K : AV → List TK → Prop}
theorem ARdP.a (h : ARdP P o t st z) : ARdA P o t st z := fun F ρ w0 w a hs hm => by
  obtain ⟨v, h1, h2⟩ := h F ρ w0 w a hs hm
  exact ⟨v, h1, fun w' _ => h2 w'⟩
theorem rdP_move (ho : o.op = .move x) (hx : evA t x = z) : ARdP P o t st z := fun F ρ w0 w a hs hm => ⟨_, hx ▸ hm.ev x, fun w' => by simp only [execOp, ho]; rfl⟩
theorem rdP_assign (ho : o.op = .assign x) (hx : evA t x = z) : ARdP P o t st z := fun F ρ w0 w a hs hm => ⟨_, hx ▸ hm.ev x, fun w' => by simp only [execOp, ho]; rfl⟩
theorem rdP_pick_t (ho : o.op = .pick c x y) (hc : evV t c = some (.bool true)) (hx : evA t x = z) : ARdP P o t st z := fun F ρ w0 w a hs hm => ⟨_, hx ▸ hm.ev x, fun w' => by simp only [execOp, ho, hm.val hc]; rfl⟩
theorem rdP_pick_f (ho : o.op = .pick c x y) (hc : evV t c = some (.bool false)) (hx : evA t y = z) : ARdP P o t st z := fun F ρ w0 w a hs hm => ⟨_, hx ▸ hm.ev y, fun w' => by simp only [execOp, ho, hm.val hc]; rfl⟩
theorem rdP_bin {op : BinOp} {xt yt : TypeId} (ho : o.op = .binOp op xt x y yt) (hx : evV t x = some vx) (hy : evV t y = some vy) (hr : ∀ w, (eqGuard op xt x y vx vy >>= fun _ => binOp op xt vx vy).run P w = .ok v w) : ARdP P o t st (.sc v) := fun F ρ w0 w a hs hm => ⟨v, .sc v, fun w' => by
  have h := hr w'
  rw [Sem.run_bind] at h
  simp only [execOp, ho, hm.val hx, hm.val hy, Sem.run_bind, h, Result.andThen_ok, Sem.run_pure]⟩
theorem rdP_un {op : UnOp} {xt : TypeId} (ho : o.op = .unOp op xt x) (hx : evV t x = some vx) (hr : ∀ w, (Op.unary op vx).run P w = .ok v w) : ARdP P o t st (.sc v) := fun F ρ w0 w a hs hm => ⟨v, .sc v, fun w' => by
  simp only [execOp, ho, hm.val hx, Sem.run_bind, hr w', Result.andThen_ok, Sem.run_pure]⟩
theorem rdP_extract {i : Nat} {vs : List AV} (ho : o.op = .extract x i) (hx : evA t x = .tu vs) (hi : vs[i]? = some z) : ARdP P o t st z := fun F ρ w0 w a hs hm => by
  have h := hm.ev x
  rw [hx] at h
  have key : ∀ us : Array Value, us.size = vs.length → a.eval x = .tuple us → ∀ v, us[i]? = some v → ∀ w', (execOp a.eval o).run P w' = .ok (.value v) w' := fun us _ he v hv w' => by
    simp only [execOp, ho, he, Instr.extract, hv]
    rfl
  generalize hq : a.eval x = q at *
  cases h with
  | s h =>
    cases h with
    | tu us _ hsz hr =>
      have hlt : i < us.size := by rw [hsz]; exact (List.getElem?_eq_some_iff.1 hi).1
      have hv := Array.getElem?_eq_getElem hlt
      exact ⟨_, .s (hr i _ z hv hi), key us hsz rfl _ hv⟩
  | tu us _ hsz hr =>
    have hlt : i < us.size := by rw [hsz]; exact (List.getElem?_eq_some_iff.1 hi).1
    have hv := Array.getElem?_eq_getElem hlt
    exact ⟨_, hr i _ z hv hi, key us hsz rfl _ hv⟩

theorem rdP_faddr_bx {s f off k g off0 : Nat} {tc : TC} (ho : o.op = .fieldAddr s x f) (hT : fOff P s f = some off) (hx : evA t x = .bx k g off0) (hk : st[k]? = some ⟨g, tc⟩) (hb : ∃ ty cs, tc = .box ty cs) : ARdP P o t st (.bx k g (off0 + off)) := fun F ρ w0 w a hs hm => by
  have h := hm.ev x
  rw [hx] at h
  obtain ⟨ty, cs, rfl⟩ := hb
  generalize hq : a.eval x = q at *
  cases h with
  | s h => cases h
  | bx _ _ _ ty' cs' hk' =>
    refine ⟨_, .bx k g _ ty' cs' hk', fun w' => ?_⟩
    simp only [execOp, ho, hq, Sem.run_bind, run_fieldAt hT, Result.andThen_ok, Sem.run_pure, Addr.add_mid]
  | ob _ _ _ p hk' => rw [hk] at hk'; injection hk' with hk'; injection hk' with _ hk'; cases hk'
  | bxd _ _ _ _ hst =>
    obtain ⟨tk, h1, h2⟩ := hst
    rw [hk] at h1
    injection h1 with h1
    subst h1
    rcases h2 with h2 | ⟨_, h2⟩
    · exact absurd h2 (Nat.lt_irrefl _)
    · cases h2
theorem rdP_faddr_ep {s f off off0 : Nat} {cs : List AV} (ho : o.op = .fieldAddr s x f) (hT : fOff P s f = some off) (hx : evA t x = .ep cs off0) : ARdP P o t st (.ep cs (off0 + off)) := fun F ρ w0 w a hs hm => by
  have h := hm.ev x
  rw [hx] at h
  generalize hq : a.eval x = q at *
  cases h with
  | s h => cases h
  | ep b base _ _ V h0 hf hv h1 hr =>
    refine ⟨.pointer (some ⟨b, base + (off0 + off), none⟩), .ep b base (off0 + off) cs V h0 hf hv h1 hr, fun w' => ?_⟩
    simp only [execOp, ho, hq, Sem.run_bind, run_fieldAt hT, Result.andThen_ok, Sem.run_pure, Addr.add_mid, Nat.add_assoc]
theorem rdP_iaddr_sl {T e : TypeId} {k : IntKind} {i : Int} {n sz : Nat} {xs : List (List AV)} {cs : List AV} (ho : o.op = .indexAddr T x y) (hT : elT P T = some (e, sz)) (hx : evA t x = .sl xs) (hy : evV t y = some (.int k i)) (hi : i = (n : Int)) (hc : xs[n]? = some cs) (hl : cs.length = sz) : ARdP P o t st (.ep cs 0) := fun F ρ w0 w a hs hm => by
  subst hi
  have h := hm.ev x
  rw [hx] at h
  have h := h.sl_s
  obtain ⟨hu, inf, hi1, hi2⟩ := el_under hT
  have hlt := (List.getElem?_eq_some_iff.1 hc).1
  generalize hq : a.eval x = q at *
  cases h with
  | sl0 A c hcm => simp at hlt
  | sl1 b off m c sz' V _ hn h0 hnc hcm hsz hf hl' hv h1 hr =>
    have hs' : sz' = sz := by rw [← hl' n cs hc, hl]
    subst hs'
    refine ⟨.pointer (some ⟨b, off + n * sz' + 0, none⟩), .ep b (off + n * sz') 0 cs (fun j => V n j) (by omega) hf (fun j hj => ?_) (fun j => h1 n j) (fun j x hx => hr n j cs x hc hx), fun w' => ?_⟩
    · rw [Nat.add_assoc]
      exact hv n j (by omega) (by omega)
    · have hnm : (n : Int) < m := by omega
      simp only [execOp, ho, Instr.indexAt, hq, hm.val hy, Sem.run_bind, asIntOf, Sem.run_pure, Result.andThen_ok, run_underlying hu]
      simp [hnm, sizeOf, typeInfo, hi1, hi2, Addr.add_mid]
theorem rdP_slice_sl {T e : TypeId} {xs : List (List AV)} {lo hi : Option Operand} {m n sz : Nat} (ho : o.op = .slice T x lo hi none) (hT : elT P T = some (e, sz)) (hx : evA t x = .sl xs) (hz : ∀ cs ∈ xs, cs.length = sz) (hlo : bdA t lo 0 m) (hhi : bdA t hi xs.length n) (h1 : m ≤ n) (h2 : n ≤ xs.length) : ARdP P o t st (.sl ((xs.take n).drop m)) := fun F ρ w0 w a hs hm => by
  have h := hm.ev x
  rw [hx] at h
  have h := h.sl_s
  obtain ⟨hu, inf, hi1, hi2⟩ := el_under hT
  obtain ⟨A, c, hv, hnc, hcm⟩ := h.sl_inv
  have key : ∀ w', (Instr.sliceBounds true xs.length c (lo.map a.eval) (hi.map a.eval) none).run P w' = .ok (m, n, c) w' := fun w' => by
    unfold Instr.sliceBounds
    simp only [Sem.run_bind, Sem.run_pure, Result.andThen_ok]
    cases hi with
    | none =>
      simp [bdA] at hhi
      subst hhi
      cases lo with
      | none => simp [bdA] at hlo; subst hlo; simp
      | some q =>
        obtain ⟨k, i, hq, rfl⟩ := hlo
        simp [hm.val hq, Instr.sliceBound, asIntOf, Sem.run_bind]
        omega
    | some p =>
      obtain ⟨k', i', hp, rfl⟩ := hhi
      cases lo with
      | none =>
        simp [bdA] at hlo
        subst hlo
        simp [hm.val hp, Instr.sliceBound, asIntOf, Sem.run_bind, show ((n : Int) ≤ c) by omega]
      | some q =>
        obtain ⟨k, i, hq, rfl⟩ := hlo
        simp [hm.val hp, hm.val hq, Instr.sliceBound, asIntOf, Sem.run_bind, show ((n : Int) ≤ c) by omega]
        omega
  refine ⟨.slice (if c = m then A else A.map (·.add (m * sz))) (n - m) (c - m), ?_, fun w' => ?_⟩
  · have hlen : ((xs.take n).drop m).length = n - m := by simp; omega
    rcases Nat.eq_zero_or_pos (n - m) with h0 | h0
    · have he : (xs.take n).drop m = [] := List.eq_nil_of_length_eq_zero (by omega)
      rw [he, h0]
      exact .s (.sl0 _ _ (by omega))
    · generalize hq : a.eval x = q at *
      cases h with
      | sl0 => simp at h2; omega
      | sl1 b off m' c' sz' V _ hn h0' hnc' hcm' hsz hf hl' hv' h1' hr =>
        injection hv with hv1 hv2 hv3
        subst hv1 hv3
        have hs' : sz' = sz := by
          have h3 : xs[0]? = some (xs[0]'(by omega)) := List.getElem?_eq_getElem (by omega)
          rw [← hl' 0 _ h3, hz _ (List.getElem_mem _)]
        subst hs'
        rw [if_neg (by omega)]
        simp only [Option.map_some, Addr.add_mid]
        refine .s (.sl1 b (off + m * sz') (n - m) (c' - m) sz' (fun i j => V (m + i) j) _ hlen h0 (by omega) (by omega) hsz hf ?_ ?_ (fun i j => h1' _ _) ?_)
        · intro i cs hcs
          rw [List.getElem?_drop, List.getElem?_take] at hcs
          split at hcs
          · exact hl' _ cs hcs
          · cases hcs
        · intro i j hi hj
          have := hv' (m + i) j (by omega) hj
          rw [← this]
          congr 2
          rw [Nat.add_mul]
          omega
        · intro i j cs x hcs hx
          rw [List.getElem?_drop, List.getElem?_take] at hcs
          split at hcs
          · exact hr _ j cs x hcs hx
          · cases hcs
  · simp only [execOp, ho, Instr.sliceAt, Instr.slice, hv, Sem.run_bind, run_underlying hu, Result.andThen_ok, Option.map_none]
    simp [key w', Sem.run_bind, sizeOf, typeInfo, hi1, hi2]

theorem rdP_conv_int {src dst : TypeId} {k k' : IntKind} {n m : Int} (ho : o.op = .convert src dst x) (hs : (P.underlying src).isSome = true) (hT : intK P dst = some k) (hx : evV t x = some (.int k' n)) (hw : k.wrap n = m) : ARdP P o t st (.sc (.int k m)) := fun F ρ w0 w a hs' hm => ⟨_, .sc _, fun w' => by
  have hu : P.underlying dst = some (.int k) := by unfold intK at hT; split at hT <;> simp_all
  obtain ⟨d, hd⟩ := Option.isSome_iff_exists.1 hs
  subst hw
  simp only [execOp, ho, convert, hm.val hx, Sem.run_bind, run_underlying hu, run_underlying hd, Result.andThen_ok, Conv.intToInt, Sem.run_pure]⟩

theorem rdP_arith_add {o : Oper} {x y : Operand} {xt yt : TypeId} {k : IntKind} {a b r : Int} (ho : o.op = .binOp .add xt x y yt) (hx : evV t x = some (.int k a)) (hy : evV t y = some (.int k b)) (hw : k.wrap (a + b) = r) : ARdP P o t st (.sc (.int k r)) :=
  rdP_bin ho hx hy fun w => by subst hw; simp [eqGuard, binOp, Op.intArith, Sem.run_bind]
theorem rdP_arith_sub {o : Oper} {x y : Operand} {xt yt : TypeId} {k : IntKind} {a b r : Int} (ho : o.op = .binOp .sub xt x y yt) (hx : evV t x = some (.int k a)) (hy : evV t y = some (.int k b)) (hw : k.wrap (a - b) = r) : ARdP P o t st (.sc (.int k r)) :=
  rdP_bin ho hx hy fun w => by subst hw; simp [eqGuard, binOp, Op.intArith, Sem.run_bind]
theorem rdP_arith_mul {o : Oper} {x y : Operand} {xt yt : TypeId} {k : IntKind} {a b r : Int} (ho : o.op = .binOp .mul xt x y yt) (hx : evV t x = some (.int k a)) (hy : evV t y = some (.int k b)) (hw : k.wrap (a * b) = r) : ARdP P o t st (.sc (.int k r)) :=
  rdP_bin ho hx hy fun w => by subst hw; simp [eqGuard, binOp, Op.intArith, Sem.run_bind]
theorem rdP_build {T : TypeId} {parts : Array (Nat × Operand)} {pls : List (Nat × Nat)} {zl : List Value} {qs : List (Nat × List AV)} {cs : List AV} (ho : o.op = .build T parts) (hT : plI P T = some pls) (hz : zeroC P T = some zl) (hq : partsA t st parts.toList = some qs) (hf : fillA (fun i => pls[i]?) (zl.map .sc) qs = some cs) : ARdP P o t st (.ag cs) := fun F ρ w0 w a hs hm => by
  obtain ⟨h1, h2⟩ := parts_rep hm parts.toList qs hq
  unfold zeroC at hz
  cases hi : P.info? T with
  | none => rw [hi] at hz; cases hz
  | some i =>
    rw [hi] at hz
    cases hzz : i.zero with
    | none => simp [hzz] at hz
    | some zv =>
      simp [hzz] at hz
      obtain ⟨hone, rfl⟩ := hz
      obtain ⟨vs', g1, g2, g3, g4⟩ := fill_rel (R := Rep F ρ st w) (fun i => pls[i]?) (parts.toList.map fun p => (p.1, a.eval p.2)) qs zv.cells (zv.cells.toList.map .sc) cs h1 h2 (by simp) (fun u hu => by
          obtain ⟨j, hj, rfl⟩ := Array.mem_iff_getElem.1 hu
          exact hone j hj) (fun j v x hv hx => by
          simp at hx
          rw [hv] at hx
          simp at hx
          subst hx
          exact .sc v) hf
      refine ⟨.agg vs', .ag vs' cs g2 g3 g4, fun w' => ?_⟩
      unfold plI at hT
      split at hT
      · rename_i fs hu
        have hpl := run_places (w := w') hT
        have hpl2 : (fs.mapM (fun f => (do pure (f.offset, ← sizeOf f.type) : Sem (Nat × Nat)))).run P w' = .ok pls.toArray w' := by
          rw [Array.mapM_eq_mapM_toList]
          show Sem.run P (fs.toList.mapM (fun f => (do pure (f.offset, ← sizeOf f.type) : Sem (Nat × Nat))) >>= fun l => pure l.toArray) w' = _
          rw [Sem.run_bind, hpl]
          rfl
        have e : (parts.map fun (i, x) => (i, a.eval x)).toList = parts.toList.map fun p => (p.1, a.eval p.2) := by simp
        simp only [execOp, ho, Instr.build, zeroValue, typeInfo, Sem.run_bind]
        simp only [run_program, hi, hzz, Sem.run_bind, Sem.run_pure, Result.andThen_ok, run_underlying hu, hpl2, e]
        have e2 : (fun i : Nat => (pls.toArray)[i]?) = fun i : Nat => pls[i]? := by funext i; simp
        simp only [e2, g1, Sem.run_pure, Result.andThen_ok]
      · cases hT

theorem rdP_len_at {T e : TypeId} {n m : Nat} (ho : o.op = .call { callee := .builtin .len, args := #[x], argTypes := #[T] }) (hT : elT P T = some (e, n)) (h : ∀ F ρ w0 w a, St F ρ st w0 w → Fm F ρ st w a t → ∃ A c, a.eval x = .slice A m c) : ARdP P o t st (.sc (.int .i64 m)) := fun F ρ w0 w a hs hm => ⟨_, .sc _, fun w' => by
  obtain ⟨A, c, h⟩ := h F ρ w0 w a hs hm
  simp only [execOp, ho, resolve, invoke, builtin, Builtin.len_, Sem.run_bind, Sem.run_pure, Result.andThen_ok, List.map_toArray, List.map_cons, List.map_nil, h]
  simp [run_underlying (el_under hT).1, goInt]⟩
theorem rdP_len_sl {T e : TypeId} {n : Nat} {xs : List (List AV)} (ho : o.op = .call { callee := .builtin .len, args := #[x], argTypes := #[T] }) (hT : elT P T = some (e, n)) (hx : evA t x = .sl xs) : ARdP P o t st (.sc (.int .i64 xs.length)) :=
  rdP_len_at ho hT fun F ρ w0 w a hs hm => by
    have h := hm.ev x
    rw [hx] at h
    obtain ⟨A, c, h, _⟩ := h.sl_s.sl_inv
    exact ⟨A, c, h⟩
theorem rdP_nilc_bx {k g off : Nat} {c : TC} (ho : o.op = .nilCheck x) (hx : evA t x = .bx k g off) (hk : st[k]? = some ⟨g, c⟩) (hc : c.isB = true := by rfl) : ARdP P o t st (.bx k g off) := fun F ρ w0 w a hs hm => by
  have h := hm.ev x
  rw [hx] at h
  have hv := h.bx_invB hk hc
  refine ⟨_, h, fun w' => ?_⟩
  simp only [execOp, ho, hv]
  rfl
theorem rdP_nilc_ep {cs : List AV} {off : Nat} (ho : o.op = .nilCheck x) (hx : evA t x = .ep cs off) : ARdP P o t st (.ep cs off) := fun F ρ w0 w a hs hm => by
  have h := hm.ev x
  rw [hx] at h
  refine ⟨_, h, fun w' => ?_⟩
  generalize hq : a.eval x = q at *
  cases h with
  | s h => cases h
  | ep b base _ _ V h0 hf hv h1 hr =>
    simp only [execOp, ho, hq]
    rfl
theorem rdP_iaddr_bx {T n e sz k g off i bt : Nat} {ik : IntKind} {I : Int} {cs : List AV} (ho : o.op = .indexAddr T x y) (hT : arT P T = some (n, e, sz)) (hx : evA t x = .bx k g off) (hk : st[k]? = some ⟨g, .box bt cs⟩) (hy : evV t y = some (.int ik I)) (hI : I = (i : Int)) (hi : i < n) : ARdP P o t st (.bx k g (off + i * sz)) := fun F ρ w0 w a hs hm => by
  obtain ⟨hu, inf, hi1, hi2⟩ := ar_parts hT
  subst hI
  have h := hm.ev x
  rw [hx] at h
  have hv := h.bx_inv hk
  refine ⟨.pointer (some ⟨(ρ k).1, off + i * sz, none⟩), .bx k g _ bt cs hk, fun w' => ?_⟩
  have hin : (i : Int) < n := by omega
  simp only [execOp, ho, Instr.indexAt, hv, hm.val hy, Sem.run_bind, asIntOf, Sem.run_pure, Result.andThen_ok, run_underlying hu, Instr.sureAddr]
  simp [hin, sizeOf, typeInfo, hi1, hi2, Addr.add_mid]
theorem rdP_index_ag {T n e sz i : Nat} {ik : IntKind} {I : Int} {cs : List AV} {z : AV} (ho : o.op = .index T x y) (hT : arT P T = some (n, e, sz)) (hE : agN P e = some none) (hx : evA t x = .ag cs) (hy : evV t y = some (.int ik I)) (hI : I = (i : Int)) (hi : i < n) (hz : cs[i * sz]? = some z) : ARdP P o t st z := fun F ρ w0 w a hs hm => by
  obtain ⟨hu, inf, hi1, hi2⟩ := ar_parts hT
  subst hI
  have h := hm.ev x
  rw [hx] at h
  obtain ⟨vs, hv, h1, h2, h3⟩ := h.ag_inv
  have hlt : i * sz < vs.size := by rw [h1]; exact (List.getElem?_eq_some_iff.1 hz).1
  have hvo := Array.getElem?_eq_getElem hlt
  refine ⟨_, h3 _ _ z hvo hz, fun w' => ?_⟩
  have hin : (i : Int) < n := by omega
  have hagg : (isAgg e).run P w' = .ok false w' := by
    unfold agN at hE
    unfold isAgg
    rw [Sem.run_bind]
    cases hu : P.underlying e with
    | none => rw [hu] at hE; cases hE
    | some d =>
      rw [run_underlying hu w']
      rw [hu] at hE
      cases d <;> simp_all
  simp only [execOp, ho, Instr.index, hv, hm.val hy, Sem.run_bind, asIntOf, Sem.run_pure, Result.andThen_ok, run_underlying hu]
  simp [hin, sizeOf, typeInfo, hi1, hi2, part, Sem.run_bind, hagg, hvo]

theorem rdP_min {Ts : Array TypeId} {k k' : IntKind} {a b r : Int} (ho : o.op = .call { callee := .builtin .min, args := #[x, y], argTypes := Ts }) (hx : evV t x = some (.int k a)) (hy : evV t y = some (.int k' b)) (hr : (if b < a then b else a) = r) : ARdP P o t st (.sc (.int k r)) := fun F ρ w0 w a' hs hm => ⟨_, .sc _, fun w' => by
  subst hr
  simp only [execOp, ho, resolve, invoke, builtin, Sem.run_bind, Sem.run_pure, Result.andThen_ok, List.map_toArray, List.map_cons, List.map_nil, hm.val hx, hm.val hy, Builtin.min_, List.foldlM_cons, List.foldlM_nil, Builtin.min2]⟩
theorem rdP_max {Ts : Array TypeId} {k k' : IntKind} {a b r : Int} (ho : o.op = .call { callee := .builtin .max, args := #[x, y], argTypes := Ts }) (hx : evV t x = some (.int k a)) (hy : evV t y = some (.int k' b)) (hr : (if a < b then b else a) = r) : ARdP P o t st (.sc (.int k r)) := fun F ρ w0 w a' hs hm => ⟨_, .sc _, fun w' => by
  subst hr
  simp only [execOp, ho, resolve, invoke, builtin, Sem.run_bind, Sem.run_pure, Result.andThen_ok, List.map_toArray, List.map_cons, List.map_nil, hm.val hx, hm.val hy, Builtin.max_, List.foldlM_cons, List.foldlM_nil, Builtin.max2]⟩

theorem rdP_seq {xt yt : TypeId} {l m : List UInt8} (ho : o.op = .binOp .eql xt x y yt) (hx : evV t x = some (sv l)) (hy : evV t y = some (sv m)) : ARdP P o t st (.sc (.bool (l == m))) :=
  rdP_bin ho hx hy fun w => by simp [eqGuard, binOp, Op.stringOp, Sem.run_bind]
theorem rdP_sne {xt yt : TypeId} {l m : List UInt8} (ho : o.op = .binOp .neq xt x y yt) (hx : evV t x = some (sv l)) (hy : evV t y = some (sv m)) : ARdP P o t st (.sc (.bool (!(l == m)))) :=
  rdP_bin ho hx hy fun w => by simp [eqGuard, binOp, Op.stringOp, Sem.run_bind]
theorem rdP_scat {xt yt : TypeId} {l m : List UInt8} (ho : o.op = .binOp .add xt x y yt) (hx : evV t x = some (sv l)) (hy : evV t y = some (sv m)) (hl : l.length + m.length ≤ 9223372036854775807) : ARdP P o t st (.sc (sv (l ++ m))) :=
  rdP_bin ho hx hy fun w => by
    have e : (⟨l.toArray⟩ : ByteArray) ++ ⟨m.toArray⟩ = ⟨(l ++ m).toArray⟩ := by apply ByteArray.ext; simp
    have h2 : ¬ ((((⟨l.toArray⟩ : ByteArray).size + (⟨m.toArray⟩ : ByteArray).size : Nat) : Int) > IntKind.i64.max) := by
      have h3 : IntKind.i64.max = 9223372036854775807 := by decide
      rw [h3]
      simp only [ByteArray.size, List.size_toArray]
      omega
    simp only [eqGuard, binOp, Op.stringOp, Sem.run_bind, e, if_neg h2]
    rfl

theorem rdP_peq_bx {xt yt : TypeId} {k g off : Nat} {c : TC} (ho : o.op = .binOp .eql xt x y yt) (hT : isPt P xt = true) (hx : evA t x = .bx k g off) (hk : st[k]? = some ⟨g, c⟩) (hy : evV t y = some (.pointer none)) (hc : c.isB = true := by rfl) : ARdP P o t st (.sc (.bool false)) := fun F ρ w0 w a hs hm => by
  obtain ⟨e, hu⟩ := pt_parts hT
  have h := hm.ev x
  rw [hx] at h
  have hv := h.bx_invB hk hc
  refine ⟨_, .sc _, fun w' => ?_⟩
  simp [execOp, ho, hv, hm.val hy, eqGuard, binOp, Sem.run_bind, run_pnil hu]
theorem rdP_pne_bx {xt yt : TypeId} {k g off : Nat} {c : TC} (ho : o.op = .binOp .neq xt x y yt) (hT : isPt P xt = true) (hx : evA t x = .bx k g off) (hk : st[k]? = some ⟨g, c⟩) (hy : evV t y = some (.pointer none)) (hc : c.isB = true := by rfl) : ARdP P o t st (.sc (.bool true)) := fun F ρ w0 w a hs hm => by
  obtain ⟨e, hu⟩ := pt_parts hT
  have h := hm.ev x
  rw [hx] at h
  have hv := h.bx_invB hk hc
  refine ⟨_, .sc _, fun w' => ?_⟩
  simp [execOp, ho, hv, hm.val hy, eqGuard, binOp, Sem.run_bind, run_pnil hu]
theorem Free.notM {F : Nat → Prop} {ρ : Loc} {w : World} {b : Nat} (h : Free F ρ st b) : ¬ (⟨w, ρ, st⟩ : Bs).M b := fun ⟨k, tk, h1, h2⟩ => h.2 k tk h1 h2
theorem Bel.cell {B : Bs} {w' : World} (h : Bel B w') {b o : Nat} (hb : b < B.w.heap.size) (hM : ¬ B.M b) : w'.cell? ⟨b, o, none⟩ = B.w.cell? ⟨b, o, none⟩ := World.cell?_of_block (h.block b hb hM)
theorem rdA_load_ep {ty : TypeId} {off : Nat} {cs : List AV} (ho : o.op = .load ty x) (hT : agN P ty = some none) (hx : evA t x = .ep cs off) (hc : cs[off]? = some z) : ARdA P o t st z := fun F ρ w0 w a hs hm => by
  have h := hm.ev x
  rw [hx] at h
  generalize hq : a.eval x = q at *
  cases h with
  | s h => cases h
  | ep b base _ _ V h0 hf hv h1 hr =>
    have hlt := (List.getElem?_eq_some_iff.1 hc).1
    refine ⟨V off, .s (hr off z hc), fun w' hb => ?_⟩
    have hcell : w'.cell? ⟨b, base + off, none⟩ = some (V off) := by
      rw [hb.cell (block_lt_of_cell (hv off hlt)) hf.notM, hv off hlt]
    simp only [execOp, ho, hq, Sem.run_bind, run_load1 hT hcell, Result.andThen_ok, Sem.run_pure]
theorem rdA_loadN_ep {ty : TypeId} {off n : Nat} {cs : List AV} (ho : o.op = .load ty x) (hT : agN P ty = some (some n)) (hx : evA t x = .ep cs off) (hc : off + n ≤ cs.length) (hz : (cs.drop off).take n = zs) : ARdA P o t st (.ag zs) := fun F ρ w0 w a hs hm => by
  have h := hm.ev x
  rw [hx] at h
  generalize hq : a.eval x = q at *
  cases h with
  | s h => cases h
  | ep b base _ _ V h0 hf hv h1 hr =>
    refine ⟨.agg ((List.range n).map fun j => V (off + j)).toArray, .s (.ag _ _ ?_ ?_ ?_), fun w' hb => ?_⟩
    · rw [← hz]; simp; omega
    · intro v hv
      simp at hv
      obtain ⟨j, _, rfl⟩ := hv
      exact h1 _
    · intro j v x hv hx
      rw [← hz] at hx
      simp only [List.getElem?_take, List.getElem?_drop] at hx
      split at hx
      · rename_i hj
        simp [hj] at hv
        subst hv
        exact hr _ x hx
      · cases hx
    · have := run_loadN (P := P) hT (b := b) (o := base + off) (w := w') (cs := (List.range n).map fun j => V (off + j)) (by simp) (fun j v hv => by
        have hj : j < n := by have := (List.getElem?_eq_some_iff.1 hv).1; simpa using this
        simp [hj] at hv
        subst hv
        rw [Nat.add_assoc, hb.cell (block_lt_of_cell (hv _ (by omega))) hf.notM, hv _ (by omega)])
      simp only [execOp, ho, hq, Sem.run_bind, this, Result.andThen_ok, Sem.run_pure]

/-! The base of a run, on. -/
theorem St.self {F : Nat → Prop} {ρ : Loc} {w0 : Bs} {w : World} (hs : St F ρ st w0 w) : St F ρ st ⟨w, ρ, st⟩ w where
  below := Bel.refl ⟨w, ρ, st⟩
  fresh := hs.fresh
  box := hs.box
  own := hs.own
  obj := hs.obj
  ge k tk b hk hb := ⟨⟨.inr ⟨k, tk, hk, hb⟩, (hs.ge k tk b hk hb).1.2⟩, (hs.ge k tk b hk hb).2⟩
  inj := hs.inj
  hist k tk0 h := ⟨tk0, h, .inl ⟨rfl, rfl⟩⟩
theorem St.rebase {F : Nat → Prop} {ρ ρ' : Loc} {st' : List TK} {w0 : Bs} {w w' : World} (hs : St F ρ st w0 w) (h1 : St F ρ' st' ⟨w, ρ, st⟩ w') : St F ρ' st' w0 w' where
  below := ⟨h1.below.os.trans hs.below.os, h1.below.tape.trans hs.below.tape, h1.below.output.trans hs.below.output, Nat.le_trans hs.below.size h1.below.size, fun b hb hM => (h1.below.block b (Nat.lt_of_lt_of_le hb hs.below.size) fun ⟨k, tk, hk, hbk⟩ => by
    rcases (hs.ge k tk b hk hbk).1.1 with h2 | h2
    · omega
    · exact hM h2).trans (hs.below.block b hb hM)⟩
  fresh := h1.fresh
  box := h1.box
  own := h1.own
  obj := h1.obj
  ge k tk b hk hb := by
    refine ⟨⟨?_, (h1.ge k tk b hk hb).1.2⟩, (h1.ge k tk b hk hb).2⟩
    rcases (h1.ge k tk b hk hb).1.1 with h2 | ⟨k2, tk2, a1, a2⟩
    · exact .inl (Nat.le_trans hs.below.size h2)
    · exact (hs.ge k2 tk2 b a1 a2).1.1
  inj := h1.inj
  hist k tk0 h := by
    obtain ⟨tk, h2, h3⟩ := hs.hist k tk0 h
    obtain ⟨tk', h4, h5⟩ := h1.hist k tk h2
    exact ⟨tk', h4, h3.trans h5⟩
end
section
variable {P : Program} {K : List AV → List TK → Prop} {o : Oper} {l : List Oper} {t : List AV} {st : List TK} {Q : APost} {x : AV} {fuel : Nat} {listed : Array Bool}
def ADA (P : Program) (l : List Oper) (K : List AV → List TK → Prop) (fuel : Nat) (listed : Array Bool) (t : List AV) (st : List TK) : Prop := ∀ F ρ w0 w a, St F ρ st w0 w → Fm F ρ st w a t → ∀ Q : Exit → Act → World → Prop, (∀ ρ' t' st' w' a', St F ρ' st' w0 w' → Fm F ρ' st' w' a' t' → K t' st' → Q .normal a' w') →
  wpAnyH P .any l.toArray (NoPanic Q) (fun w' => Bel ⟨w, ρ, st⟩ w') fuel listed a w
def ADB (P : Program) (l : List Oper) (K : List AV → List TK → Prop) (fuel : Nat) (listed : Array Bool) (t : List AV) (st : List TK) : Prop := ∀ F ρ w0 w a (B : Bs), St F ρ st w0 w → St F ρ st B w → Fm F ρ st w a t → ∀ Q : Exit → Act → World → Prop, (∀ ρ' t' st' w' a', St F ρ' st' w0 w' → Fm F ρ' st' w' a' t' → K t' st' → Q .normal a' w') →
  wpAnyH P .any l.toArray (NoPanic Q) (fun w' => Bel B w') fuel listed a w
theorem AW.drawA {id : Nat} (hp : P.follows .mixedOrders = true) (h : ADA P l (fun t st => Q .normal t st) l.length (Array.replicate l.length false) t st) : AW P (.region id l.toArray true) Q t st := fun F ρ w0 w a hs hm =>
  wp_region_noPanic (wp_region_held (S := fun w' => Bel ⟨w.drew, ρ, st⟩ w') hp (by
    have e : l.toArray.size = l.length := by simp
    rw [e]
    exact h F ρ w0 w.drew a (hs.grow (Below.refl _ _).drew) (hm.mv (Mv.below (Below.refl _ _).drew)) _ fun ρ' t' st' _ _ h1 h2 h3 => ⟨ρ', t', st', h1, h2, h3⟩))
theorem ADA.take (i : Nat) (hi : l[i]? = some o) (hs : Region.noSelect l.toArray = true) (hf : Region.free .any l.toArray listed i = true) (hr : (Region.ready .any l.toArray listed).contains i = true)
    (hw : WantA l.toArray o t true) (h : ARdA P o t st x) (hk : ADA P l K fuel (listed.setIfInBounds i true) (putA t o.dst x) st) : ADA P l K (fuel + 1) listed t st := fun F ρ w0 w a hs' hm Q hq => by
  obtain ⟨v, h1, h2⟩ := h F ρ w0 w a hs' hm
  exact wpAnyH_take (by simpa using hi) hs hf hr (fun _ _ _ h => h) (.inl ⟨hw.run hm, h2⟩) (Bel.refl ⟨w, ρ, st⟩) (hk F ρ w0 w _ hs' (hm.put _ h1) Q hq)
theorem ADA.skip (i : Nat) (hi : l[i]? = some o) (hs : Region.noSelect l.toArray = true) (hf : Region.free .any l.toArray listed i = true) (hr : (Region.ready .any l.toArray listed).contains i = true)
    (hw : WantA l.toArray o t false) (hk : ADA P l K fuel (listed.setIfInBounds i true) (putA t o.dst (.sc undef)) st) : ADA P l K (fuel + 1) listed t st := fun F ρ w0 w a hs' hm Q hq =>
  wpAnyH_take (by simpa using hi) hs hf hr (fun _ _ _ h => h) (.inr ⟨hw.run hm, rfl⟩) (Bel.refl ⟨w, ρ, st⟩) (hk F ρ w0 w _ hs' (hm.put _ (.sc _)) Q hq)
theorem ADA.b (h : ADB P l K fuel listed t st) : ADA P l K fuel listed t st := fun F ρ w0 w a hs hm Q hq => h F ρ w0 w a ⟨w, ρ, st⟩ hs hs.self hm Q hq
theorem ADB.take (i : Nat) (hi : l[i]? = some o) (hs : Region.noSelect l.toArray = true) (hf : Region.free .any l.toArray listed i = true) (hr : (Region.ready .any l.toArray listed).contains i = true)
    (hw : WantA l.toArray o t true) (h : ARdP P o t st x) (hk : ADB P l K fuel (listed.setIfInBounds i true) (putA t o.dst x) st) : ADB P l K (fuel + 1) listed t st := fun F ρ w0 w a B hs' hB hm Q hq => by
  obtain ⟨v, h1, h2⟩ := h F ρ w0 w a hs' hm
  exact wpAnyH_take (by simpa using hi) hs hf hr (fun _ _ _ h => h) (.inl ⟨hw.run hm, fun w' _ => h2 w'⟩) hB.below (hk F ρ w0 w _ B hs' hB (hm.put _ h1) Q hq)
theorem ADB.skip (i : Nat) (hi : l[i]? = some o) (hs : Region.noSelect l.toArray = true) (hf : Region.free .any l.toArray listed i = true) (hr : (Region.ready .any l.toArray listed).contains i = true)
    (hw : WantA l.toArray o t false) (hk : ADB P l K fuel (listed.setIfInBounds i true) (putA t o.dst (.sc undef)) st) : ADB P l K (fuel + 1) listed t st := fun F ρ w0 w a B hs' hB hm Q hq =>
  wpAnyH_take (by simpa using hi) hs hf hr (fun _ _ _ h => h) (.inr ⟨hw.run hm, rfl⟩) hB.below (hk F ρ w0 w _ B hs' hB (hm.put _ (.sc _)) Q hq)
/-- One of those that may come up. -/
def ADBo (P : Program) (l : List Oper) (K : List AV → List TK → Prop) (fuel : Nat) (listed : Array Bool) (t : List AV) (st : List TK) (i : Nat) : Prop := ∃ o, l[i]? = some o ∧ WantA l.toArray o t true ∧ AOp P o t st fun x st' => ADB P l K fuel (listed.setIfInBounds i true) (putA t o.dst x) st'
theorem ADB.all {is : List Nat} (hr : Region.ready .any l.toArray listed = is) (hne : is ≠ []) (h : ∀ i ∈ is, ADBo P l K fuel listed t st i) : ADB P l K (fuel + 1) listed t st := fun F ρ w0 w a B hs hB hm Q hq => by
  refine wpAnyH_all hr (by simpa using hne) fun j hj => ?_
  obtain ⟨oj, hi, hw, ho⟩ := h j hj
  unfold wpOp
  have hi' : l.toArray[j]? = some oj := by simpa using hi
  simp only [hi', hw.run hm, if_true]
  exact .inl (ho F ρ ⟨w, ρ, st⟩ w a hs.self hm _ (NoPanic Q) fun v w' ρ' st' x h1 h2 h3 h4 => ⟨(hB.rebase h1).below, h4 F ρ' w0 w' _ B (hs.rebase h1) (hB.rebase h1) ((hm.mv h2).put _ h3) Q hq⟩)
theorem ADB.move (i : Nat) (hi : l[i]? = some o) (hr : Region.ready .any l.toArray listed = [i]) (hw : WantA l.toArray o t true) (h : AOp P o t st fun x st' => ADB P l K fuel (listed.setIfInBounds i true) (putA t o.dst x) st') : ADB P l K (fuel + 1) listed t st :=
  ADB.all hr (by simp) fun j hj => by
    obtain rfl : j = i := by simpa using hj
    exact ⟨o, hi, hw, h⟩
theorem ADB.done (hr : Region.ready .any l.toArray listed = []) (h : K t st) : ADB P l K fuel listed t st := fun F ρ w0 w a B hs hB hm Q hq => wpAnyH_done (Q := NoPanic Q) hr (NoPanic.normal (hq ρ t st w a hs hm h)) _
theorem ADA.done (hr : Region.ready .any l.toArray listed = []) (h : K t st) : ADA P l K fuel listed t st := ADA.b (ADB.done hr h)
theorem ADA.fork {d : Nat} {b : Bool} (hb : evA t (.tmp d) = .sc (.bool b)) (ht : b = true → ADA P l K fuel listed (t.set d (.sc (.bool true))) st) (hf : b = false → ADA P l K fuel listed (t.set d (.sc (.bool false))) st) : ADA P l K fuel listed t st := fun F ρ w0 w a hs hm => by
  cases b with
  | true => have := ht rfl; rw [hm.setB hb] at this; exact this F ρ w0 w a hs hm
  | false => have := hf rfl; rw [hm.setB hb] at this; exact this F ρ w0 w a hs hm
theorem ADB.fork {d : Nat} {b : Bool} (hb : evA t (.tmp d) = .sc (.bool b)) (ht : b = true → ADB P l K fuel listed (t.set d (.sc (.bool true))) st) (hf : b = false → ADB P l K fuel listed (t.set d (.sc (.bool false))) st) : ADB P l K fuel listed t st := fun F ρ w0 w a B hs hB hm => by
  cases b with
  | true => have := ht rfl; rw [hm.setB hb] at this; exact this F ρ w0 w a B hs hB hm
  | false => have := hf rfl; rw [hm.setB hb] at this; exact this F ρ w0 w a B hs hB hm
end
end Go.Proofs.Ytgjpeldgjpgbcaa
