/- The operations on abstract states: plain ones, boxes, slices that are read. No conditions. -/
import Derived.Test.YtgjpeldgjpgbcaaAw
import Derived.IntWalk
namespace Go.Proofs.Ytgjpeldgjpgbcaa
set_option linter.unusedSimpArgs false
set_option linter.unusedVariables false
open Go.RowKit

/-- A value that is known whole. -/
def AV.vals : List AV → Option (List Value)
  | [] => some []
  | .sc v :: cs => match AV.vals cs with | some l => some (v :: l) | none => none
  | _ => none
def AV.val : AV → Option Value
  | .sc v => some v
  | .ag cs => match AV.vals cs with | some l => some (.agg l.toArray) | none => none
  | _ => none
def evV (t : List AV) (x : Operand) : Option Value := (evA t x).val

theorem vals_eq : ∀ (cs : List AV) (l : List Value), AV.vals cs = some l → cs = l.map AV.sc
  | [], l, h => by simp [AV.vals] at h; subst h; rfl
  | c :: cs, l, h => by
    cases c with
    | sc v =>
      simp only [AV.vals] at h
      cases hm : AV.vals cs with
      | none => rw [hm] at h; cases h
      | some l' =>
        rw [hm] at h
        injection h with h
        subst h
        rw [vals_eq cs l' hm]
        rfl
    | _ => simp [AV.vals] at h

section
variable {F : Nat → Prop} {ρ : Loc} {st : List TK} {w : World} {w0 : Bs} {v u : Value} {x : AV} {a : Act} {t : List AV}
theorem Rep.of_val (h : Rep F ρ st w v x) (hx : x.val = some u) : v = u := by
  cases x with
  | sc v' => simp [AV.val] at hx; subst hx; exact h.of_sc
  | ag cs =>
    simp only [AV.val] at hx
    cases h1 : AV.vals cs with
    | none => rw [h1] at hx; cases hx
    | some l =>
    rw [h1] at hx
    injection hx with hx
    subst hx
    have hc := vals_eq cs l h1
    subst hc
    have key : ∀ vs : Array Value, vs.size = (l.map AV.sc).length → (∀ (j : Nat) v x, vs[j]? = some v → (l.map AV.sc)[j]? = some x → Rep F ρ st w v x) → vs = l.toArray := by
      intro vs hs hr
      apply Array.ext_getElem?
      intro j
      rcases Nat.lt_or_ge j vs.size with hj | hj
      · have hj' : j < l.length := by rw [hs] at hj; simpa using hj
        have h2 := hr j _ (.sc l[j]) (Array.getElem?_eq_getElem hj) (by simp [hj'])
        rw [Array.getElem?_eq_getElem hj, h2.of_sc]
        simp [hj']
      · rw [Array.getElem?_eq_none hj, Array.getElem?_eq_none (by rw [hs] at hj; simpa using hj)]
    cases h with
    | s h =>
      cases h with
      | ag vs _ hs h1 hr => rw [key vs hs fun j v x a b => .s (hr j v x a b)]
    | ag vs _ hs h1 hr => rw [key vs hs hr]
  | _ => simp [AV.val] at hx
theorem Fm.val (h : Fm F ρ st w a t) {x : Operand} (hx : evV t x = some u) : a.eval x = u := (h.ev x).of_val hx
end

section
variable {P : Program} {o : Oper} {t : List AV} {st : List TK} {x y c : Operand} {vx vy v : Value} {z z' : AV} {zs : List AV}

theorem rd_move (ho : o.op = .move x) (hx : evA t x = z) : ARd P o t st z := fun F ρ w0 w a hs hm => ⟨_, hx ▸ hm.ev x, fun w' _ => by simp only [execOp, ho]; rfl⟩
theorem rd_assign (ho : o.op = .assign x) (hx : evA t x = z) : ARd P o t st z := fun F ρ w0 w a hs hm => ⟨_, hx ▸ hm.ev x, fun w' _ => by simp only [execOp, ho]; rfl⟩
theorem rd_pick_t (ho : o.op = .pick c x y) (hc : evV t c = some (.bool true)) (hx : evA t x = z) : ARd P o t st z := fun F ρ w0 w a hs hm => ⟨_, hx ▸ hm.ev x, fun w' _ => by simp only [execOp, ho, hm.val hc]; rfl⟩
theorem rd_pick_f (ho : o.op = .pick c x y) (hc : evV t c = some (.bool false)) (hx : evA t y = z) : ARd P o t st z := fun F ρ w0 w a hs hm => ⟨_, hx ▸ hm.ev y, fun w' _ => by simp only [execOp, ho, hm.val hc]; rfl⟩
theorem rd_bin {op : BinOp} {xt yt : TypeId} (ho : o.op = .binOp op xt x y yt) (hx : evV t x = some vx) (hy : evV t y = some vy) (hr : ∀ w, (eqGuard op xt x y vx vy >>= fun _ => binOp op xt vx vy).run P w = .ok v w) : ARd P o t st (.sc v) := fun F ρ w0 w a hs hm => ⟨v, .sc v, fun w' _ => by
  have h := hr w'
  rw [Sem.run_bind] at h
  simp only [execOp, ho, hm.val hx, hm.val hy, Sem.run_bind, h, Result.andThen_ok, Sem.run_pure]⟩
theorem rd_un {op : UnOp} {xt : TypeId} (ho : o.op = .unOp op xt x) (hx : evV t x = some vx) (hr : ∀ w, (Op.unary op vx).run P w = .ok v w) : ARd P o t st (.sc v) := fun F ρ w0 w a hs hm => ⟨v, .sc v, fun w' _ => by
  simp only [execOp, ho, hm.val hx, Sem.run_bind, hr w', Result.andThen_ok, Sem.run_pure]⟩
theorem rd_extract {i : Nat} {vs : List AV} (ho : o.op = .extract x i) (hx : evA t x = .tu vs) (hi : vs[i]? = some z) : ARd P o t st z := fun F ρ w0 w a hs hm => by
  have h := hm.ev x
  rw [hx] at h
  have key : ∀ us : Array Value, us.size = vs.length → a.eval x = .tuple us → ∀ v, us[i]? = some v → ∀ w', Below w.heap.size w w' → (execOp a.eval o).run P w' = .ok (.value v) w' := fun us _ he v hv w' _ => by
    simp only [execOp, ho, he, Instr.extract, hv]
    rfl
  generalize hq : a.eval x = q at *
  cases h with
  | s h =>
    cases h with
    | tu us _ hsz hr =>
      have hlt : i < us.size := by rw [hsz]; exact (List.getElem?_eq_some_iff.1 hi).1
      have hv := Array.getElem?_eq_getElem hlt
      exact ⟨_, .s (hr i _ z hv hi), key us hsz rfl _ hv⟩
  | tu us _ hsz hr =>
    have hlt : i < us.size := by rw [hsz]; exact (List.getElem?_eq_some_iff.1 hi).1
    have hv := Array.getElem?_eq_getElem hlt
    exact ⟨_, hr i _ z hv hi, key us hsz rfl _ hv⟩

/-! Strings. -/
theorem toList_mk (l : List UInt8) : (⟨l.toArray⟩ : ByteArray).toList = l := by simp
abbrev sv (s : List UInt8) : Value := .string ⟨s.toArray⟩
theorem rd_seq {xt yt : TypeId} {l m : List UInt8} (ho : o.op = .binOp .eql xt x y yt) (hx : evV t x = some (sv l)) (hy : evV t y = some (sv m)) : ARd P o t st (.sc (.bool (l == m))) :=
  rd_bin ho hx hy fun w => by simp [eqGuard, binOp, Op.stringOp, Sem.run_bind]
theorem rd_sne {xt yt : TypeId} {l m : List UInt8} (ho : o.op = .binOp .neq xt x y yt) (hx : evV t x = some (sv l)) (hy : evV t y = some (sv m)) : ARd P o t st (.sc (.bool (!(l == m)))) :=
  rd_bin ho hx hy fun w => by simp [eqGuard, binOp, Op.stringOp, Sem.run_bind]
theorem rd_slt {xt yt : TypeId} {l m : List UInt8} (ho : o.op = .binOp .lss xt x y yt) (hx : evV t x = some (sv l)) (hy : evV t y = some (sv m)) : ARd P o t st (.sc (.bool (Op.bytesLess l m))) :=
  rd_bin ho hx hy fun w => by simp [eqGuard, binOp, Op.stringOp, Sem.run_bind]
theorem rd_scat {xt yt : TypeId} {l m : List UInt8} (ho : o.op = .binOp .add xt x y yt) (hx : evV t x = some (sv l)) (hy : evV t y = some (sv m)) (hl : l.length + m.length ≤ 9223372036854775807) : ARd P o t st (.sc (sv (l ++ m))) :=
  rd_bin ho hx hy fun w => by
    have e : (⟨l.toArray⟩ : ByteArray) ++ ⟨m.toArray⟩ = ⟨(l ++ m).toArray⟩ := by apply ByteArray.ext; simp
    have h2 : ¬ ((((⟨l.toArray⟩ : ByteArray).size + (⟨m.toArray⟩ : ByteArray).size : Nat) : Int) > IntKind.i64.max) := by
      have h3 : IntKind.i64.max = 9223372036854775807 := by decide
      rw [h3]
      simp only [ByteArray.size, List.size_toArray]
      omega
    simp only [eqGuard, binOp, Op.stringOp, Sem.run_bind, e, if_neg h2]
    rfl

/-! What types say. -/
def intK (P : Program) (t : TypeId) : Option IntKind := match P.underlying t with | some (.int k) => some k | _ => none
def isStr (P : Program) (t : TypeId) : Bool := match P.underlying t with | some .string => true | _ => false
def elT (P : Program) (t : TypeId) : Option (TypeId × Nat) := match P.underlying t with | some (.slice e) => (P.info? e).map fun i => (e, i.size) | _ => none
def fOff (P : Program) (s : TypeId) (f : Nat) : Option Nat := match P.underlying s with
  | some (.struct fs) => (fs[f]?).bind fun q => (P.info? q.type).bind fun i => if i.size = 0 then none else some q.offset
  | _ => none
/-- Cells of a variable: none, if it is one that is no struct or array. -/
def agN (P : Program) (t : TypeId) : Option (Option Nat) := match P.underlying t with
  | some (.struct _) => (P.info? t).map fun i => some i.size
  | some (.array _ _) => (P.info? t).map fun i => some i.size
  | some _ => some none
  | none => none
theorem run_fieldAt {s f off : Nat} (h : fOff P s f = some off) (a : Addr) (w : World) : (Instr.fieldAt s (.pointer (some a)) f).run P w = .ok (.pointer (some (a.add off))) w := by
  unfold fOff at h
  split at h
  · rename_i fs hu
    cases hf : fs[f]? with
    | none => rw [hf] at h; cases h
    | some q =>
      rw [hf] at h
      simp only [Option.bind_some] at h
      cases hi : P.info? q.type with
      | none => rw [hi] at h; cases h
      | some i =>
        rw [hi] at h
        simp only [Option.bind_some] at h
        split at h
        · cases h
        · rename_i h0
          injection h with h
          subst h
          simp [Instr.fieldAt, Sem.run_bind, run_underlying hu, hf, Instr.sureAddr, fieldPlace, sizeOf, typeInfo, hi, h0]
  · cases h
theorem run_load1 {ty : TypeId} (h : agN P ty = some none) {a : Addr} {w : World} {v : Value} (hc : w.cell? a = some v) : (Instr.loadAt ty (.pointer (some a))).run P w = .ok v w := by
  unfold agN at h
  have hagg : (isAgg ty).run P w = .ok false w := by
    unfold isAgg
    rw [Sem.run_bind]
    cases hu : P.underlying ty with
    | none => rw [hu] at h; cases h
    | some d =>
      rw [run_underlying hu w]
      rw [hu] at h
      cases d <;> simp_all
  simp [Instr.loadAt, Instr.sureAddr, loadVar, Sem.run_bind, hagg, hc]
theorem run_loadN {ty n : Nat} (h : agN P ty = some (some n)) {b o : Nat} {w : World} {cs : List Value} (hl : cs.length = n) (hc : ∀ j v, cs[j]? = some v → w.cell? ⟨b, o + j, none⟩ = some v) : (Instr.loadAt ty (.pointer (some ⟨b, o, none⟩))).run P w = .ok (.agg cs.toArray) w := by
  unfold agN at h
  split at h
  · rename_i fs hu
    exact run_loadAt_mid w b o ty cs _ hc hu rfl (by cases hi : P.info? ty <;> simp_all)
  · rename_i m e hu
    exact run_loadAt_mid w b o ty cs _ hc hu rfl (by cases hi : P.info? ty <;> simp_all)
  · cases h
  · cases h

/-! Pointers, loads. -/
theorem rd_faddr_bx {s f off k g off0 : Nat} {tc : TC} (ho : o.op = .fieldAddr s x f) (hT : fOff P s f = some off) (hx : evA t x = .bx k g off0) (hk : st[k]? = some ⟨g, tc⟩) (hb : ∃ ty cs, tc = .box ty cs) : ARd P o t st (.bx k g (off0 + off)) := fun F ρ w0 w a hs hm => by
  have h := hm.ev x
  rw [hx] at h
  obtain ⟨ty, cs, rfl⟩ := hb
  generalize hq : a.eval x = q at *
  cases h with
  | s h => cases h
  | bx _ _ _ ty' cs' hk' =>
    refine ⟨_, .bx k g _ ty' cs' hk', fun w' _ => ?_⟩
    simp only [execOp, ho, hq, Sem.run_bind, run_fieldAt hT, Result.andThen_ok, Sem.run_pure, Addr.add_mid]
  | ob _ _ _ p hk' => rw [hk] at hk'; injection hk' with hk'; injection hk' with _ hk'; cases hk'
  | bxd _ _ _ _ hst =>
    obtain ⟨tk, h1, h2⟩ := hst
    rw [hk] at h1
    injection h1 with h1
    subst h1
    rcases h2 with h2 | ⟨_, h2⟩
    · exact absurd h2 (Nat.lt_irrefl _)
    · cases h2
theorem rd_faddr_ep {s f off off0 : Nat} {cs : List AV} (ho : o.op = .fieldAddr s x f) (hT : fOff P s f = some off) (hx : evA t x = .ep cs off0) : ARd P o t st (.ep cs (off0 + off)) := fun F ρ w0 w a hs hm => by
  have h := hm.ev x
  rw [hx] at h
  generalize hq : a.eval x = q at *
  cases h with
  | s h => cases h
  | ep b base _ _ V h0 hf hv h1 hr =>
    refine ⟨.pointer (some ⟨b, base + (off0 + off), none⟩), .ep b base (off0 + off) cs V h0 hf hv h1 hr, fun w' _ => ?_⟩
    simp only [execOp, ho, hq, Sem.run_bind, run_fieldAt hT, Result.andThen_ok, Sem.run_pure, Addr.add_mid, Nat.add_assoc]
theorem Rep.bx_invB {F : Nat → Prop} {ρ : Loc} {w : World} {v : Value} {k g off : Nat} {c : TC} (h : Rep F ρ st w v (.bx k g off)) (hk : st[k]? = some ⟨g, c⟩) (hc : c.isB = true) : v = .pointer (some ⟨(ρ k).1, off, none⟩) := by
  cases h with
  | s h => cases h
  | bx => rfl
  | ob => rfl
  | bxd _ _ _ _ hst =>
    obtain ⟨tk, h1, h2⟩ := hst
    rw [hk] at h1
    injection h1 with h1
    subst h1
    rcases h2 with h2 | ⟨_, h2⟩
    · exact absurd h2 (Nat.lt_irrefl _)
    · simp only at h2; subst h2; cases hc
theorem Rep.bx_inv {F : Nat → Prop} {ρ : Loc} {w : World} {v : Value} {k g off : Nat} {ty : TypeId} {cs : List AV} (h : Rep F ρ st w v (.bx k g off)) (hk : st[k]? = some ⟨g, .box ty cs⟩) : v = .pointer (some ⟨(ρ k).1, off, none⟩) := by
  cases h with
  | s h => cases h
  | bx => rfl
  | ob => rfl
  | bxd _ _ _ _ hst =>
    obtain ⟨tk, h1, h2⟩ := hst
    rw [hk] at h1
    injection h1 with h1
    subst h1
    rcases h2 with h2 | ⟨_, h2⟩
    · exact absurd h2 (Nat.lt_irrefl _)
    · cases h2
theorem rd_load_bx {ty bt : TypeId} {k g off : Nat} {cs : List AV} (ho : o.op = .load ty x) (hT : agN P ty = some none) (hx : evA t x = .bx k g off) (hk : st[k]? = some ⟨g, .box bt cs⟩) (hc : cs[off]? = some z) : ARd P o t st z := fun F ρ w0 w a hs hm => by
  have h := hm.ev x
  rw [hx] at h
  have hv := h.bx_inv hk
  obtain ⟨vs, h1, h2, h3, h4⟩ := hs.box k g bt cs hk
  have hlt : off < vs.size := by rw [h2]; exact (List.getElem?_eq_some_iff.1 hc).1
  have hvo := Array.getElem?_eq_getElem hlt
  refine ⟨_, h4 off _ z hvo hc, fun w' hb => ?_⟩
  have hcell : w'.cell? ⟨(ρ k).1, off, none⟩ = some vs[off] := by
    rw [hb.cell (p := ⟨(ρ k).1, off, none⟩) (Array.getElem?_eq_some_iff.1 h1).1, cell_of_row _ _ _ _ _ _ h1, hvo]
  simp only [execOp, ho, hv, Sem.run_bind, run_load1 hT hcell, Result.andThen_ok, Sem.run_pure]
theorem rd_loadN_bx {ty bt : TypeId} {k g off n : Nat} {cs : List AV} (ho : o.op = .load ty x) (hT : agN P ty = some (some n)) (hx : evA t x = .bx k g off) (hk : st[k]? = some ⟨g, .box bt cs⟩) (hc : off + n ≤ cs.length) (hz : (cs.drop off).take n = zs) : ARd P o t st (.ag zs) := fun F ρ w0 w a hs hm => by
  have h := hm.ev x
  rw [hx] at h
  have hv := h.bx_inv hk
  obtain ⟨vs, h1, h2, h3, h4⟩ := hs.box k g bt cs hk
  refine ⟨.agg ((vs.toList.drop off).take n).toArray, .ag _ _ ?_ ?_ ?_, fun w' hb => ?_⟩
  · rw [← hz]; simp; omega
  · intro v hv
    have : v ∈ vs.toList := List.mem_of_mem_drop (List.mem_of_mem_take (by simpa using hv))
    exact h3 v (by simpa using this)
  · intro j v x hv hx
    rw [← hz] at hx
    simp only [List.getElem?_toArray, List.getElem?_take, List.getElem?_drop] at hv hx
    split at hv
    · rename_i hj
      rw [if_pos hj] at hx
      exact h4 (off + j) v x (by simpa using hv) hx
    · cases hv
  · have := run_loadN (P := P) hT (b := (ρ k).1) (o := off) (w := w') (cs := (vs.toList.drop off).take n) (by simp; omega) (fun j v hv => by
      rw [hb.cell (p := ⟨(ρ k).1, off + j, none⟩) (Array.getElem?_eq_some_iff.1 h1).1, cell_of_row _ _ _ _ _ _ h1]
      simp only [List.getElem?_take, List.getElem?_drop] at hv
      split at hv
      · simpa using hv
      · cases hv)
    simp only [execOp, ho, hv, Sem.run_bind, this, Result.andThen_ok, Sem.run_pure]
theorem rd_load_ep {ty : TypeId} {off : Nat} {cs : List AV} (ho : o.op = .load ty x) (hT : agN P ty = some none) (hx : evA t x = .ep cs off) (hc : cs[off]? = some z) : ARd P o t st z := fun F ρ w0 w a hs hm => by
  have h := hm.ev x
  rw [hx] at h
  generalize hq : a.eval x = q at *
  cases h with
  | s h => cases h
  | ep b base _ _ V h0 hf hv h1 hr =>
    have hlt := (List.getElem?_eq_some_iff.1 hc).1
    refine ⟨V off, .s (hr off z hc), fun w' hb => ?_⟩
    have hcell : w'.cell? ⟨b, base + off, none⟩ = some (V off) := by
      rw [hb.cell (p := ⟨b, base + off, none⟩) (block_lt_of_cell (hv off hlt)), hv off hlt]
    simp only [execOp, ho, hq, Sem.run_bind, run_load1 hT hcell, Result.andThen_ok, Sem.run_pure]
theorem rd_loadN_ep {ty : TypeId} {off n : Nat} {cs : List AV} (ho : o.op = .load ty x) (hT : agN P ty = some (some n)) (hx : evA t x = .ep cs off) (hc : off + n ≤ cs.length) (hz : (cs.drop off).take n = zs) : ARd P o t st (.ag zs) := fun F ρ w0 w a hs hm => by
  have h := hm.ev x
  rw [hx] at h
  generalize hq : a.eval x = q at *
  cases h with
  | s h => cases h
  | ep b base _ _ V h0 hf hv h1 hr =>
    refine ⟨.agg ((List.range n).map fun j => V (off + j)).toArray, .s (.ag _ _ ?_ ?_ ?_), fun w' hb => ?_⟩
    · rw [← hz]; simp; omega
    · intro v hv
      simp at hv
      obtain ⟨j, _, rfl⟩ := hv
      exact h1 _
    · intro j v x hv' hx'
      rw [← hz] at hx'
      simp only [List.getElem?_toArray, List.getElem?_map] at hv'
      simp only [List.getElem?_take, List.getElem?_drop] at hx'
      split at hx'
      · rename_i hj
        rw [List.getElem?_range hj] at hv'
        simp at hv'
        subst hv'
        exact hr (off + j) x hx'
      · cases hx'
    · have := run_loadN (P := P) hT (b := b) (o := base + off) (w := w') (cs := (List.range n).map fun j => V (off + j)) (by simp) (fun j v hv' => by
        simp only [List.getElem?_map] at hv'
        have hj : j < n := by
          rcases Nat.lt_or_ge j n with h | h
          · exact h
          · rw [List.getElem?_eq_none (by simpa using h)] at hv'; cases hv'
        rw [List.getElem?_range hj] at hv'
        simp at hv'
        subst hv'
        rw [Nat.add_assoc, hb.cell (p := ⟨b, base + (off + j), none⟩) (block_lt_of_cell (hv (off + j) (by omega))), hv (off + j) (by omega)])
      simp only [execOp, ho, hq, Sem.run_bind, this, Result.andThen_ok, Sem.run_pure]
end
end Go.Proofs.Ytgjpeldgjpgbcaa
