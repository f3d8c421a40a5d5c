/- The operations on abstract states, on: lengths, elements, pieces of slices and strings, boxes, stores, calls and what they answer. No conditions. -/
import Derived.Test.YtgjpeldgjpgbcaaAo
namespace Go.Proofs.Ytgjpeldgjpgbcaa
set_option linter.unusedSimpArgs false
set_option linter.unusedVariables false
open Go.RowKit

section
variable {P : Program} {o : Oper} {t : List AV} {st : List TK} {x y c : Operand} {vx vy v : Value} {z z' : AV} {zs : List AV}

/-- A slice that is read, as a value. -/
theorem RepS.sl_inv {F : Nat → Prop} {w : World} {v : Value} {xs : List (List AV)} (h : RepS F w v (.sl xs)) : ∃ A c, v = .slice A xs.length c ∧ xs.length ≤ c ∧ c ≤ maxLen := by
  cases h with
  | sl0 A c hc => exact ⟨A, c, rfl, Nat.zero_le _, hc⟩
  | sl1 b off n c sz V _ hn h0 hnc hc => exact ⟨_, c, by rw [hn], by omega, hc⟩
theorem Rep.sl_s {F : Nat → Prop} {ρ : Loc} {w : World} {v : Value} {xs : List (List AV)} (h : Rep F ρ st w v (.sl xs)) : RepS (Free F ρ st) w v (.sl xs) := by
  cases h with
  | s h => exact h
theorem Rep.ow_inv {F : Nat → Prop} {ρ : Loc} {w : World} {v : Value} {k g : Nat} {el : TypeId} {sz : Nat} {xs : List (List AV)} (h : Rep F ρ st w v (.ow k g)) (hk : st[k]? = some ⟨g, .own el sz xs⟩) : v = .slice (some ⟨(ρ k).1, 0, none⟩) xs.length (ρ k).2 := by
  cases h with
  | s h => cases h
  | ow _ _ el' sz' xs' hk' =>
    rw [hk] at hk'
    injection hk' with hk'
    injection hk' with _ hk'
    injection hk' with _ _ hk'
    rw [hk']
  | ow0 _ _ el' sz' hk' => rw [hk] at hk'; injection hk' with hk'; injection hk' with _ hk'; cases hk'
  | owd _ _ _ hst =>
    obtain ⟨tk, h1, h2⟩ := hst
    rw [hk] at h1
    injection h1 with h1
    subst h1
    rcases h2 with h2 | ⟨_, h2⟩
    · exact absurd h2 (Nat.lt_irrefl _)
    · cases h2

theorem Rep.ow0_inv {F : Nat → Prop} {ρ : Loc} {w : World} {v : Value} {k g : Nat} {el : TypeId} {sz : Nat} (h : Rep F ρ st w v (.ow k g)) (hk : st[k]? = some ⟨g, .nown el sz⟩) : v = .slice none 0 0 := by
  cases h with
  | s h => cases h
  | ow _ _ el' sz' xs' hk' => rw [hk] at hk'; injection hk' with hk'; injection hk' with _ hk'; cases hk'
  | ow0 => rfl
  | owd _ _ _ hst =>
    obtain ⟨tk, h1, h2⟩ := hst
    rw [hk] at h1
    injection h1 with h1
    subst h1
    rcases h2 with h2 | ⟨_, h2⟩
    · exact absurd h2 (Nat.lt_irrefl _)
    · cases h2
theorem rd_len_str {T : TypeId} {l : List UInt8} (ho : o.op = .call { callee := .builtin .len, args := #[x], argTypes := #[T] }) (hT : isStr P T = true) (hx : evV t x = some (sv l)) : ARd P o t st (.sc (.int .i64 l.length)) := fun F ρ w0 w a hs hm => ⟨_, .sc _, fun w' _ => by
  have hu : P.underlying T = some .string := by unfold isStr at hT; split at hT <;> simp_all
  have hsz : (⟨l.toArray⟩ : ByteArray).size = l.length := rfl
  simp only [execOp, ho, resolve, invoke, builtin, Builtin.len_, Sem.run_bind, Sem.run_pure, Result.andThen_ok, List.map_toArray, List.map_cons, List.map_nil, hm.val hx]
  simp only [List.getElem?_toArray, List.getElem?_cons_zero, Sem.run_bind, run_underlying hu, Result.andThen_ok, Sem.run_pure, goInt, hsz]⟩
theorem el_under {T e : TypeId} {n : Nat} (hT : elT P T = some (e, n)) : P.underlying T = some (.slice e) ∧ ∃ i, P.info? e = some i ∧ i.size = n := by
  unfold elT at hT
  split at hT
  · rename_i e' hu
    cases hi : P.info? e' with
    | none => rw [hi] at hT; cases hT
    | some i =>
      rw [hi] at hT
      simp at hT
      obtain ⟨rfl, rfl⟩ := hT
      exact ⟨hu, i, hi, rfl⟩
  · cases hT
theorem rd_len_at {T e : TypeId} {n m : Nat} (ho : o.op = .call { callee := .builtin .len, args := #[x], argTypes := #[T] }) (hT : elT P T = some (e, n)) (h : ∀ F ρ w0 w a, St F ρ st w0 w → Fm F ρ st w a t → ∃ A c, a.eval x = .slice A m c) : ARd P o t st (.sc (.int .i64 m)) := fun F ρ w0 w a hs hm => ⟨_, .sc _, fun w' _ => by
  obtain ⟨A, c, h⟩ := h F ρ w0 w a hs hm
  simp only [execOp, ho, resolve, invoke, builtin, Builtin.len_, Sem.run_bind, Sem.run_pure, Result.andThen_ok, List.map_toArray, List.map_cons, List.map_nil, h]
  simp [run_underlying (el_under hT).1, goInt]⟩
theorem rd_len_sl {T e : TypeId} {n : Nat} {xs : List (List AV)} (ho : o.op = .call { callee := .builtin .len, args := #[x], argTypes := #[T] }) (hT : elT P T = some (e, n)) (hx : evA t x = .sl xs) : ARd P o t st (.sc (.int .i64 xs.length)) :=
  rd_len_at ho hT fun F ρ w0 w a hs hm => by
    have h := hm.ev x
    rw [hx] at h
    obtain ⟨A, c, h, _⟩ := h.sl_s.sl_inv
    exact ⟨A, c, h⟩
theorem rd_len_ow {T e el : TypeId} {n k g sz : Nat} {xs : List (List AV)} (ho : o.op = .call { callee := .builtin .len, args := #[x], argTypes := #[T] }) (hT : elT P T = some (e, n)) (hx : evA t x = .ow k g) (hk : st[k]? = some ⟨g, .own el sz xs⟩) : ARd P o t st (.sc (.int .i64 xs.length)) :=
  rd_len_at ho hT fun F ρ w0 w a hs hm => by
    have h := hm.ev x
    rw [hx] at h
    exact ⟨_, _, h.ow_inv hk⟩
theorem rd_len_ow0 {T e el : TypeId} {n k g sz : Nat} (ho : o.op = .call { callee := .builtin .len, args := #[x], argTypes := #[T] }) (hT : elT P T = some (e, n)) (hx : evA t x = .ow k g) (hk : st[k]? = some ⟨g, .nown el sz⟩) : ARd P o t st (.sc (.int .i64 0)) :=
  rd_len_at (m := 0) ho hT fun F ρ w0 w a hs hm => by
    have h := hm.ev x
    rw [hx] at h
    exact ⟨_, _, h.ow0_inv hk⟩
theorem rd_len_nil {T e : TypeId} {n : Nat} (ho : o.op = .call { callee := .builtin .len, args := #[x], argTypes := #[T] }) (hT : elT P T = some (e, n)) (hx : evV t x = some (.slice none 0 0)) : ARd P o t st (.sc (.int .i64 0)) :=
  rd_len_at (m := 0) ho hT fun F ρ w0 w a hs hm => ⟨_, _, hm.val hx⟩

/-- The bounds of a piece. -/
def bdA (t : List AV) (x : Option Operand) (d n : Nat) : Prop := match x with | none => n = d | some x => ∃ k i, evV t x = some (.int k i) ∧ i = (n : Int)
theorem bd_run {F : Nat → Prop} {ρ : Loc} {w w' : World} {a : Act} {d n m : Nat} {code : BoundsCode} (hm : Fm F ρ st w a t) {x : Option Operand} (h : bdA t x d n) (hn : n ≤ m) :
    ∀ (e : Sem Nat), (x = none → e.run P w' = .ok d w') → (∀ v, x.map a.eval = some v → e = Instr.sliceBound v m code) → e.run P w' = .ok n w' := by
  intro e h1 h2
  cases x with
  | none => simp [bdA] at h; subst h; exact h1 rfl
  | some x =>
    obtain ⟨k, i, hx, rfl⟩ := h
    rw [h2 _ (by simp [hm.val hx] : (some x).map a.eval = some (.int k n))]
    simp [Instr.sliceBound, asIntOf, Sem.run_bind]
    omega

theorem rd_index_str {T : TypeId} {l : List UInt8} {k : IntKind} {i : Int} {n : Nat} {b : UInt8} (ho : o.op = .index T x y) (hT : isStr P T = true) (hx : evV t x = some (sv l)) (hy : evV t y = some (.int k i)) (hi : i = (n : Int)) (hn : l[n]? = some b) : ARd P o t st (.sc (.int .u8 (b.toNat : Nat))) := fun F ρ w0 w a hs hm => ⟨_, .sc _, fun w' _ => by
  have hu : P.underlying T = some .string := by unfold isStr at hT; split at hT <;> simp_all
  subst hi
  have hb : (⟨l.toArray⟩ : ByteArray)[n]? = some b := by
    have hlt := (List.getElem?_eq_some_iff.1 hn).1
    have h0 : n < (⟨l.toArray⟩ : ByteArray).size := by simpa [ByteArray.size] using hlt
    rw [getElem?_pos (⟨l.toArray⟩ : ByteArray) n h0]
    congr 1
    have := (List.getElem?_eq_some_iff.1 hn).2
    rw [← this]
    rfl
  simp only [execOp, ho, Instr.index, hm.val hx, hm.val hy, Sem.run_bind, asIntOf, Sem.run_pure, Result.andThen_ok, run_underlying hu]
  simp [hb]⟩

theorem rd_slice_str {T : TypeId} {l : List UInt8} {lo hi : Option Operand} {m n : Nat} (ho : o.op = .slice T x lo hi none) (hT : isStr P T = true) (hx : evV t x = some (sv l)) (hlo : bdA t lo 0 m) (hhi : bdA t hi l.length n) (h1 : m ≤ n) (h2 : n ≤ l.length) : ARd P o t st (.sc (sv ((l.take n).drop m))) := fun F ρ w0 w a hs hm => ⟨_, .sc _, fun w' _ => by
  have hu : P.underlying T = some .string := by unfold isStr at hT; split at hT <;> simp_all
  have hsz : (⟨l.toArray⟩ : ByteArray).size = l.length := by simp [ByteArray.size]
  have e : (⟨l.toArray⟩ : ByteArray).extract m n = ⟨((l.take n).drop m).toArray⟩ := by
    apply ByteArray.ext
    simp [ByteArray.data_extract, List.drop_take]
  have key : (Instr.sliceBounds false l.length l.length (lo.map a.eval) (hi.map a.eval) none).run P w' = .ok (m, n, l.length) w' := by
    unfold Instr.sliceBounds
    simp only [Sem.run_bind, Sem.run_pure, Result.andThen_ok]
    cases hi with
    | none =>
      simp [bdA] at hhi
      subst hhi
      cases lo with
      | none => simp [bdA] at hlo; subst hlo; simp
      | some q =>
        obtain ⟨k, i, hq, rfl⟩ := hlo
        simp [hm.val hq, Instr.sliceBound, asIntOf, Sem.run_bind]
        omega
    | some p =>
      obtain ⟨k', i', hp, rfl⟩ := hhi
      cases lo with
      | none =>
        simp [bdA] at hlo
        subst hlo
        simp [hm.val hp, Instr.sliceBound, asIntOf, Sem.run_bind, show ((n : Int) ≤ l.length) by omega]
      | some q =>
        obtain ⟨k, i, hq, rfl⟩ := hlo
        simp [hm.val hp, hm.val hq, Instr.sliceBound, asIntOf, Sem.run_bind, show ((n : Int) ≤ l.length) by omega]
        omega
  simp only [execOp, ho, Instr.sliceAt, Instr.slice, hm.val hx, Sem.run_bind, run_underlying hu, Result.andThen_ok, Option.map_none, Option.isSome_none, hsz]
  simp [key, e, Sem.run_bind]⟩

/-- The element of a slice that is read. -/
theorem rd_iaddr_sl {T e : TypeId} {k : IntKind} {i : Int} {n sz : Nat} {xs : List (List AV)} {cs : List AV} (ho : o.op = .indexAddr T x y) (hT : elT P T = some (e, sz)) (hx : evA t x = .sl xs) (hy : evV t y = some (.int k i)) (hi : i = (n : Int)) (hc : xs[n]? = some cs) (hl : cs.length = sz) : ARd P o t st (.ep cs 0) := fun F ρ w0 w a hs hm => by
  subst hi
  have h := hm.ev x
  rw [hx] at h
  have h := h.sl_s
  obtain ⟨hu, inf, hi1, hi2⟩ := el_under hT
  have hlt := (List.getElem?_eq_some_iff.1 hc).1
  generalize hq : a.eval x = q at *
  cases h with
  | sl0 A c hcm => simp at hlt
  | sl1 b off m c sz' V _ hn h0 hnc hcm hsz hf hl' hv h1 hr =>
    have hs' : sz' = sz := by rw [← hl' n cs hc, hl]
    subst hs'
    refine ⟨.pointer (some ⟨b, off + n * sz' + 0, none⟩), .ep b (off + n * sz') 0 cs (fun j => V n j) (by omega) hf (fun j hj => ?_) (fun j => h1 n j) (fun j x hx => hr n j cs x hc hx), fun w' _ => ?_⟩
    · rw [Nat.add_assoc]
      exact hv n j (by omega) (by omega)
    · have hnm : (n : Int) < m := by omega
      simp only [execOp, ho, Instr.indexAt, hq, hm.val hy, Sem.run_bind, asIntOf, Sem.run_pure, Result.andThen_ok, run_underlying hu]
      simp [hnm, sizeOf, typeInfo, hi1, hi2, Addr.add_mid]
theorem rd_slice_sl {T e : TypeId} {xs : List (List AV)} {lo hi : Option Operand} {m n sz : Nat} (ho : o.op = .slice T x lo hi none) (hT : elT P T = some (e, sz)) (hx : evA t x = .sl xs) (hz : ∀ cs ∈ xs, cs.length = sz) (hlo : bdA t lo 0 m) (hhi : bdA t hi xs.length n) (h1 : m ≤ n) (h2 : n ≤ xs.length) : ARd P o t st (.sl ((xs.take n).drop m)) := fun F ρ w0 w a hs hm => by
  have h := hm.ev x
  rw [hx] at h
  have h := h.sl_s
  obtain ⟨hu, inf, hi1, hi2⟩ := el_under hT
  obtain ⟨A, c, hv, hnc, hcm⟩ := h.sl_inv
  have key : ∀ w', (Instr.sliceBounds true xs.length c (lo.map a.eval) (hi.map a.eval) none).run P w' = .ok (m, n, c) w' := fun w' => by
    unfold Instr.sliceBounds
    simp only [Sem.run_bind, Sem.run_pure, Result.andThen_ok]
    cases hi with
    | none =>
      simp [bdA] at hhi
      subst hhi
      cases lo with
      | none => simp [bdA] at hlo; subst hlo; simp
      | some q =>
        obtain ⟨k, i, hq, rfl⟩ := hlo
        simp [hm.val hq, Instr.sliceBound, asIntOf, Sem.run_bind]
        omega
    | some p =>
      obtain ⟨k', i', hp, rfl⟩ := hhi
      cases lo with
      | none =>
        simp [bdA] at hlo
        subst hlo
        simp [hm.val hp, Instr.sliceBound, asIntOf, Sem.run_bind, show ((n : Int) ≤ c) by omega]
      | some q =>
        obtain ⟨k, i, hq, rfl⟩ := hlo
        simp [hm.val hp, hm.val hq, Instr.sliceBound, asIntOf, Sem.run_bind, show ((n : Int) ≤ c) by omega]
        omega
  refine ⟨.slice (if c = m then A else A.map (·.add (m * sz))) (n - m) (c - m), ?_, fun w' _ => ?_⟩
  · have hlen : ((xs.take n).drop m).length = n - m := by simp; omega
    rcases Nat.eq_zero_or_pos (n - m) with h0 | h0
    · have he : (xs.take n).drop m = [] := List.eq_nil_of_length_eq_zero (by omega)
      rw [he, h0]
      exact .s (.sl0 _ _ (by omega))
    · generalize hq : a.eval x = q at *
      cases h with
      | sl0 => simp at h2; omega
      | sl1 b off m' c' sz' V _ hn h0' hnc' hcm' hsz hf hl' hv' h1' hr =>
        injection hv with hv1 hv2 hv3
        subst hv1 hv3
        have hs' : sz' = sz := by
          have h3 : xs[0]? = some (xs[0]'(by omega)) := List.getElem?_eq_getElem (by omega)
          rw [← hl' 0 _ h3, hz _ (List.getElem_mem _)]
        subst hs'
        rw [if_neg (by omega)]
        simp only [Option.map_some, Addr.add_mid]
        refine .s (.sl1 b (off + m * sz') (n - m) (c' - m) sz' (fun i j => V (m + i) j) _ hlen h0 (by omega) (by omega) hsz hf ?_ ?_ (fun i j => h1' _ _) ?_)
        · intro i cs hcs
          rw [List.getElem?_drop, List.getElem?_take] at hcs
          split at hcs
          · exact hl' _ cs hcs
          · cases hcs
        · intro i j hi hj
          have := hv' (m + i) j (by omega) hj
          rw [← this]
          congr 2
          rw [Nat.add_mul]
          omega
        · intro i j cs x hcs hx
          rw [List.getElem?_drop, List.getElem?_take] at hcs
          split at hcs
          · exact hr _ j cs x hcs hx
          · cases hcs
  · simp only [execOp, ho, Instr.sliceAt, Instr.slice, hv, Sem.run_bind, run_underlying hu, Result.andThen_ok, Option.map_none]
    simp [key w', Sem.run_bind, sizeOf, typeInfo, hi1, hi2]

theorem rd_conv_int {src dst : TypeId} {k k' : IntKind} {n m : Int} (ho : o.op = .convert src dst x) (hs : (P.underlying src).isSome = true) (hT : intK P dst = some k) (hx : evV t x = some (.int k' n)) (hw : k.wrap n = m) : ARd P o t st (.sc (.int k m)) := fun F ρ w0 w a hs' hm => ⟨_, .sc _, fun w' _ => by
  have hu : P.underlying dst = some (.int k) := by unfold intK at hT; split at hT <;> simp_all
  obtain ⟨d, hd⟩ := Option.isSome_iff_exists.1 hs
  subst hw
  simp only [execOp, ho, convert, hm.val hx, Sem.run_bind, run_underlying hu, run_underlying hd, Result.andThen_ok, Conv.intToInt, Sem.run_pure]⟩

/-! Boxes. -/
def AV.cells? : AV → Option (List AV)
  | .sc (.agg vs) => if vs.all (·.oneCell') then some (vs.toList.map .sc) else none
  | .sc (.tuple _) => none
  | .sc v => some [.sc v]
  | .ag cs => some cs
  | .sl xs => some [.sl xs]
  | .ow k g => some [.ow k g]
  | .bx k g o => some [.bx k g o]
  | _ => none
theorem Rep.cells {F : Nat → Prop} {ρ : Loc} {w : World} (h : Rep F ρ st w v z) (hz : z.cells? = some zs) (ho : ∀ k g, z = .ow k g → ∃ c, st[k]? = some ⟨g, c⟩ ∧ c ≠ .off) (hb : ∀ k g o, z = .bx k g o → ∃ c, st[k]? = some ⟨g, c⟩ ∧ c ≠ .off) :
    v.cells.size = zs.length ∧ (∀ u ∈ v.cells, u.oneCell' = true) ∧ ∀ (j : Nat) u x, v.cells[j]? = some u → zs[j]? = some x → Rep F ρ st w u x := by
  have one : ∀ u : Value, u.cells = #[u] → u.oneCell' = true → ∀ y : AV, Rep F ρ st w u y → zs = [y] → u.cells.size = zs.length ∧ (∀ u' ∈ u.cells, u'.oneCell' = true) ∧ ∀ (j : Nat) u' x, u.cells[j]? = some u' → zs[j]? = some x → Rep F ρ st w u' x := by
    intro u hu h1 y hy hzs
    subst hzs
    rw [hu]
    refine ⟨rfl, by simpa using h1, fun j u' x hu' hx => ?_⟩
    cases j with
    | zero => simp at hu' hx; subst hu' hx; exact hy
    | succ j => simp at hx
  cases z with
  | sc u =>
    obtain rfl := h.of_sc
    cases v with
    | agg vs =>
      simp [AV.cells?] at hz
      obtain ⟨h1, rfl⟩ := hz
      refine ⟨by simp [Value.cells], fun u hu => ?_, fun j u x hu hx => ?_⟩
      · obtain ⟨i, hi, rfl⟩ := Array.mem_iff_getElem.1 (by simpa [Value.cells] using hu)
        exact h1 i hi
      · simp [Value.cells] at hu hx
        rw [hu] at hx
        simp at hx
        subst hx
        exact .sc u
    | tuple vs => simp [AV.cells?] at hz
    | _ =>
      simp [AV.cells?] at hz
      exact one _ rfl rfl _ (.sc _) hz.symm
  | ag cs =>
    simp [AV.cells?] at hz
    subst hz
    cases h with
    | s h =>
      cases h with
      | ag vs _ hs h1 hr => exact ⟨hs, h1, fun j u x hu hx => .s (hr j u x hu hx)⟩
    | ag vs _ hs h1 hr => exact ⟨hs, h1, hr⟩
  | sl xs =>
    simp [AV.cells?] at hz
    obtain ⟨A, c, rfl, _⟩ := h.sl_s.sl_inv
    exact one _ rfl rfl _ h hz.symm
  | ow k g =>
    simp [AV.cells?] at hz
    obtain ⟨c, hk, hne⟩ := ho k g rfl
    cases h with
    | s h => cases h
    | ow _ _ el sz xs hk' => exact one _ rfl rfl _ (.ow k g el sz xs hk') hz.symm
    | ow0 _ _ el sz hk' => exact one _ rfl rfl _ (.ow0 k g el sz hk') hz.symm
    | owd _ _ _ hst =>
      obtain ⟨tk, h1, h2⟩ := hst
      rw [hk] at h1
      injection h1 with h1
      subst h1
      rcases h2 with h2 | ⟨_, h2⟩
      · exact absurd h2 (Nat.lt_irrefl _)
      · exact absurd h2 hne
  | bx k g o =>
    simp [AV.cells?] at hz
    obtain ⟨c, hk, hne⟩ := hb k g o rfl
    cases h with
    | s h => cases h
    | bx _ _ _ ty cs hk' => exact one _ rfl rfl _ (.bx k g o ty cs hk') hz.symm
    | ob _ _ _ p hk' => exact one _ rfl rfl _ (.ob k g o p hk') hz.symm
    | bxd _ _ _ _ hst =>
      obtain ⟨tk, h1, h2⟩ := hst
      rw [hk] at h1
      injection h1 with h1
      subst h1
      rcases h2 with h2 | ⟨_, h2⟩
      · exact absurd h2 (Nat.lt_irrefl _)
      · exact absurd h2 hne
  | _ => simp [AV.cells?] at hz
def TC.isO : TC → Bool
  | .own _ _ _ => true
  | .nown _ _ => true
  | _ => false
/-- Own slices and boxes that the cell names are there. -/
def liveA (st : List TK) : AV → Bool
  | .ow k g => match st[k]? with | some tk => tk.g == g && tk.c.isO | none => false
  | .bx k g _ => match st[k]? with | some tk => tk.g == g && tk.c.isB | none => false
  | _ => true
theorem live_tk {k g : Nat} {p : TC → Bool} (h : (match st[k]? with | some tk => tk.g == g && p tk.c | none => false) = true) : ∃ c, st[k]? = some ⟨g, c⟩ ∧ p c = true := by
  cases hk : st[k]? with
  | none => rw [hk] at h; cases h
  | some tk =>
    obtain ⟨g', c⟩ := tk
    rw [hk] at h
    simp at h
    obtain ⟨rfl, h2⟩ := h
    exact ⟨c, rfl, h2⟩
theorem live_ow {k g : Nat} (h : liveA st (.ow k g) = true) : ∃ c, st[k]? = some ⟨g, c⟩ ∧ c ≠ .off := by
  obtain ⟨c, h1, h2⟩ := live_tk (p := TC.isO) h
  exact ⟨c, h1, fun e => by subst e; cases h2⟩
theorem live_bx {k g o : Nat} (h : liveA st (.bx k g o) = true) : ∃ c, st[k]? = some ⟨g, c⟩ ∧ c ≠ .off := by
  obtain ⟨c, h1, h2⟩ := live_tk (p := TC.isB) h
  exact ⟨c, h1, fun e => by subst e; cases h2⟩

/-- Blocks that came since are free. -/
theorem St.free_new {F : Nat → Prop} {ρ : Loc} {w0 : Bs} {w : World} (hs : St F ρ st w0 w) {b : Nat} (hb : w.heap.size ≤ b) : Free F ρ st b :=
  ⟨hs.fresh b hb, fun k tk hk hf => by have := (hs.ge k tk b hk hf).2; omega⟩
/-- A block g that came since is taken under the ticket k. -/
theorem St.adopt {F : Nat → Prop} {ρ : Loc} {w0 : Bs} {w w' : World} {k g : Nat} {tk : TK} (hs : St F ρ st w0 w) (hb : Below w.heap.size w w') (hg : w.heap.size ≤ g) (hg' : g < w'.heap.size) (hk : st[k]? = some tk) (tc : TC) (cap : Nat)
    (hbox : ∀ ty cs, tc = .box ty cs → ∃ vs : Array Value, w'.heap[g]? = some (.cells vs ty (0, 0)) ∧ vs.size = cs.length ∧ (∀ v ∈ vs, v.oneCell' = true) ∧ ∀ (j : Nat) v x, vs[j]? = some v → cs[j]? = some x → Rep F ρ st w v x)
    (hown : ∀ el sz xs, tc = .own el sz xs → ∃ us : List Value, w'.ownsRow 0 el sz (.slice (some ⟨g, 0, none⟩) xs.length cap) xs.length us ∧ 0 < sz ∧ (∀ v ∈ us, v.oneCell' = true) ∧ (∀ (i : Nat) (cs : List AV), xs[i]? = some cs → cs.length = sz) ∧
      ∀ (i j : Nat) (cs : List AV) v x, xs[i]? = some cs → cs[j]? = some x → us[i * sz + j]? = some v → RepS (fun b => Free F ρ st b ∧ b ≠ g) w' v x) (hno : ∀ p, tc ≠ .obj p := by intro p e; cases e) :
    ∃ ρ' : Loc, ρ' k = (g, cap) ∧ St F ρ' (st.set k ⟨tk.g + 1, tc⟩) w0 w' ∧ Mv F ρ st w ρ' (st.set k ⟨tk.g + 1, tc⟩) w' ∧ ∀ b, Free F ρ st b → b ≠ g → Free F ρ' (st.set k ⟨tk.g + 1, tc⟩) b := by
  have hklt := (List.getElem?_eq_some_iff.1 hk).1
  let ρ' : Loc := fun j => if j = k then (g, cap) else ρ j
  have hρk : ρ' k = (g, cap) := by simp [ρ']
  have hρj : ∀ j, j ≠ k → ρ' j = ρ j := fun j hj => by simp [ρ', hj]
  have hfk : ∀ b, foot ρ' k tc b → g = b := fun b hf => by
    cases tc with
    | box ty cs => have : (ρ' k).1 = b := hf; rw [hρk] at this; exact this
    | own el sz xs => have : (ρ' k).1 = b := hf; rw [hρk] at this; exact this
    | obj p => exact (hno p rfl).elim
    | _ => exact hf.elim
  have hfr : ∀ b, Free F ρ st b → b ≠ g → Free F ρ' (st.set k ⟨tk.g + 1, tc⟩) b := fun b hf hne => ⟨hf.1, fun j q hq hqo => by
    rcases get_set hklt hq with ⟨rfl, rfl⟩ | ⟨hj, hq'⟩
    · exact hne (hfk b hqo).symm
    · exact hf.2 j q hq' ((foot_loc (hρj j hj)).1 hqo)⟩
  have hmv : Mv F ρ st w ρ' (st.set k ⟨tk.g + 1, tc⟩) w' := Mv.upd hk hρj (fun b o hf ho => by
    have hblt := (Array.getElem?_eq_some_iff.1 ho).1
    exact ⟨fun h => by have := hfk b h; omega, (hb.block b hblt).trans ho⟩) (.inr (.inl (Nat.lt_succ_self _)))
  refine ⟨ρ', hρk, ?_, hmv, hfr⟩
  refine hs.upd hk hρj (hs.below.grow hb) hb.size hmv (fun j q b hj hq hf => hb.block b (hs.ge j q b hq hf).2) (fun b hf => ?_) (fun j q b hj hq hf hf' => ?_) (fun ty cs e => ?_) (fun el sz xs e => ?_) (fun p e => (hno p e).elim)
  · obtain rfl := hfk b hf
    exact ⟨⟨.inl (Nat.le_trans hs.below.size hg), hs.fresh g hg⟩, hg'⟩
  · obtain rfl := hfk b hf'
    have := (hs.ge j q g hq hf).2; omega
  · obtain ⟨vs, h1, h2, h3, h4⟩ := hbox ty cs e
    exact ⟨vs, by rw [hρk]; exact h1, h2, h3, fun j v x hv hx => (h4 j v x hv hx).mv hmv⟩
  · obtain ⟨us, h1, h2, h3, h4, h5⟩ := hown el sz xs e
    rw [hρk]
    exact ⟨us, h1, h2, h3, h4, fun i j cs v x a b c => (h5 i j cs v x a b c).mono fun b _ hb => hfr b hb.1 hb.2⟩

theorem op_box {K : AV → List TK → Prop} {ty : TypeId} (k : Nat) {tk : TK} (ho : o.op = .box ty x) (hx : evA t x = z) (hz : z.cells? = some zs) (hl : liveA st z = true) (hk : st[k]? = some tk) (h : K (.bx k (tk.g + 1) 0) (st.set k ⟨tk.g + 1, .box ty zs⟩)) : AOpB P o t st K := fun F ρ w0 w a hs hm next Q hn => by
  have hr := hm.ev x
  rw [hx] at hr
  obtain ⟨h1, h2, h3⟩ := hr.cells hz (fun k g e => live_ow (by rw [← e]; exact hl)) (fun k g o e => live_bx (by rw [← e]; exact hl))
  obtain ⟨ρ', hρ, hs', hmv, _⟩ := hs.adopt (w' := w.alloc (.cells (a.eval x).cells ty)) ((Below.refl _ _).alloc (Nat.le_refl _) _) (Nat.le_refl _) (by simp) hk (.box ty zs) 0 (fun ty' cs e => by injection e with e1 e2; subst e1 e2; exact ⟨_, heap_alloc_new w _, h1, h2, h3⟩) (fun _ _ _ e => by cases e)
  have hrun : (execOp a.eval o).run P w = .ok (.value (.pointer (some ⟨w.heap.size, 0, none⟩))) (w.alloc (.cells (a.eval x).cells ty)) := by
    simp only [execOp, ho, Instr.box, newVar, newRow, newObj]
    rfl
  unfold Oper.wp
  rw [hrun]
  have hk2 : (st.set k ⟨tk.g + 1, .box ty zs⟩)[k]? = some ⟨tk.g + 1, .box ty zs⟩ := by rw [List.getElem?_set_self (List.getElem?_eq_some_iff.1 hk).1]
  have hrep := Rep.bx (F := F) (ρ := ρ') (w := w.alloc (.cells (a.eval x).cells ty)) k (tk.g + 1) 0 ty zs hk2
  rw [hρ] at hrep
  exact hn _ _ ρ' _ _ hs' hmv hrep ((Below.refl _ _).alloc (Nat.le_refl _) _) h
end
end Go.Proofs.Ytgjpeldgjpgbcaa
