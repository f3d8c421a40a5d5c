/- Printed walks: the rules with their small proofs filled in. No conditions. -/
import Derived.Test.YtgjpeldgjpgbcaaAx
import Derived.KernelRfl
import Derived.Laws.StructEq
namespace Go.Proofs.Ytgjpeldgjpgbcaa
set_option linter.unusedSimpArgs false
set_option linter.unusedVariables false
open Go.RowKit

abbrev Bytes := List UInt8
abbrev AI (n : Int) : AV := .sc (.int .i64 n)
abbrev AB (b : Bool) : AV := .sc (.bool b)
abbrev AS (s : Bytes) : AV := .sc (sv s)
/-- Texts, as cells of a slice. -/
def csS (l : List Bytes) : List (List AV) := l.map fun c => [AS c]
theorem csS_len (l : List Bytes) : (csS l).length = l.length := by simp [csS]
theorem csS_take (l : List Bytes) (k : Nat) : (csS l).take k = csS (l.take k) := by simp [csS, List.map_take]
theorem csS_drop (l : List Bytes) (k : Nat) : (csS l).drop k = csS (l.drop k) := by simp [csS, List.map_drop]
theorem csS_app (l m : List Bytes) : csS l ++ csS m = csS (l ++ m) := by simp [csS]
theorem byA_len (l : Bytes) : (byA l).length = l.length := by simp [byA]
theorem byA_take (l : Bytes) (k : Nat) : (byA l).take k = byA (l.take k) := by simp [byA, List.map_take]
theorem byA_drop (l : Bytes) (k : Nat) : (byA l).drop k = byA (l.drop k) := by simp [byA, List.map_drop]
theorem byA_app (l m : Bytes) : byA l ++ byA m = byA (l ++ m) := by simp [byA]
theorem csS_one {l : List Bytes} : ∀ cs ∈ csS l, cs.length = 1 := by intro cs h; obtain ⟨_, _, rfl⟩ := List.mem_map.1 h; rfl
theorem byA_one {l : Bytes} : ∀ cs ∈ byA l, cs.length = 1 := by intro cs h; obtain ⟨_, _, rfl⟩ := List.mem_map.1 h; rfl
def chunkA : Nat → Nat → List AV → List (List AV)
  | 0, _, _ => []
  | n + 1, sz, cs => cs.take sz :: chunkA n sz (cs.drop sz)
theorem chunk_spec (sz : Nat) : ∀ (n : Nat) (cs : List AV), cs.length = n * sz → (chunkA n sz cs).flatten = cs ∧ (chunkA n sz cs).length = n ∧ ∀ c ∈ chunkA n sz cs, c.length = sz
  | 0, cs, h => by
    rw [Nat.zero_mul] at h
    have : cs = [] := List.eq_nil_of_length_eq_zero h
    subst this
    simp [chunkA]
  | n + 1, cs, h => by
    rw [Nat.add_mul, Nat.one_mul] at h
    obtain ⟨h1, h2, h3⟩ := chunk_spec sz n (cs.drop sz) (by rw [List.length_drop]; omega)
    refine ⟨by rw [chunkA, List.flatten_cons, h1, List.take_append_drop], by rw [chunkA, List.length_cons, h2], fun c hc => ?_⟩
    rw [chunkA] at hc
    rcases List.mem_cons.1 hc with rfl | hc
    · rw [List.length_take]; omega
    · exact h3 c hc
theorem fillA_len (place : Nat → Option (Nat × Nat)) : ∀ (qs : List (Nat × List AV)) (cs cs' : List AV), fillA place cs qs = some cs' → cs'.length = cs.length
  | [], cs, cs', h => by simp [fillA] at h; subst h; rfl
  | (i, zs) :: qs, cs, cs', h => by
    simp only [fillA] at h
    cases hp : place i with
    | none => rw [hp] at h; cases h
    | some q =>
      obtain ⟨off, size⟩ := q
      rw [hp] at h
      simp only [] at h
      split at h
      · cases h
      · rw [fillA_len place qs _ cs' h, splA_len]
section
variable {P : Program} {ops : Array Oper} {K : List AV → List TK → Prop} {l : List Oper} {t : List AV} {st : List TK} {Q : APost} {c : Code}
theorem AL.n {t' : List AV} {st' : List TK} (h : AL P ops K l t' st') (ht : t = t' := by (try simp only [putA, evA, List.getD_cons_zero, List.getD_cons_succ, List.set_cons_zero, List.set_cons_succ, List.length_map, KR, splA, List.map_cons, List.map_nil, List.length_append, List.length_cons, List.length_nil, List.drop_zero, csS_len, csS_take, csS_drop, csS_app, byA_len, byA_take, byA_drop, byA_app, ← List.map_take, ← List.map_drop, ← List.map_append]); (try rfl)) (hs : st = st' := by (try simp only [putA, evA, List.getD_cons_zero, List.getD_cons_succ, List.set_cons_zero, List.set_cons_succ, List.length_map, KR, splA, List.map_cons, List.map_nil, List.length_append, List.length_cons, List.length_nil, List.drop_zero, csS_len, csS_take, csS_drop, csS_app, byA_len, byA_take, byA_drop, byA_app, ← List.map_take, ← List.map_drop, ← List.map_append]); (try rfl)) : AL P ops K l t st := by subst ht hs; exact h
theorem AD.n {fuel : Nat} {listed : Array Bool} {t' : List AV} {st' : List TK} (h : AD P l K fuel listed t' st') (ht : t = t' := by (try simp only [putA, evA, List.getD_cons_zero, List.getD_cons_succ, List.set_cons_zero, List.set_cons_succ, List.length_map, KR, splA, List.map_cons, List.map_nil, List.length_append, List.length_cons, List.length_nil, List.drop_zero, csS_len, csS_take, csS_drop, csS_app, byA_len, byA_take, byA_drop, byA_app, ← List.map_take, ← List.map_drop, ← List.map_append]); (try rfl)) (hs : st = st' := by (try simp only [putA, evA, List.getD_cons_zero, List.getD_cons_succ, List.set_cons_zero, List.set_cons_succ, List.length_map, KR, splA, List.map_cons, List.map_nil, List.length_append, List.length_cons, List.length_nil, List.drop_zero, csS_len, csS_take, csS_drop, csS_app, byA_len, byA_take, byA_drop, byA_app, ← List.map_take, ← List.map_drop, ← List.map_append]); (try rfl)) : AD P l K fuel listed t st := by subst ht hs; exact h
theorem AL.r {o : Oper} {x : AV} {t' : List AV} (h : ARd P o t st x) (hk : AL P ops K l t' st) (ht : putA t o.dst x = t' := by (try simp only [putA, evA, List.getD_cons_zero, List.getD_cons_succ, List.set_cons_zero, List.set_cons_succ, List.length_map, KR, splA, List.map_cons, List.map_nil, List.length_append, List.length_cons, List.length_nil, List.drop_zero, csS_len, csS_take, csS_drop, csS_app, byA_len, byA_take, byA_drop, byA_app, ← List.map_take, ← List.map_drop, ← List.map_append]); (try rfl)) (hg : o.guard = none := by rfl) : AL P ops K (o :: l) t st := by subst ht; exact AL.rd hg h hk
theorem AL.ro {o : Oper} {x : AV} {t' : List AV} {j d : Nat} {b : Bool} (h : ARd P o t st x) (hk : AL P ops K l t' st) (ht : putA t o.dst x = t' := by (try simp only [putA, evA, List.getD_cons_zero, List.getD_cons_succ, List.set_cons_zero, List.set_cons_succ, List.length_map, KR, splA, List.map_cons, List.map_nil, List.length_append, List.length_cons, List.length_nil, List.drop_zero, csS_len, csS_take, csS_drop, csS_app, byA_len, byA_take, byA_drop, byA_app, ← List.map_take, ← List.map_drop, ← List.map_append]); (try rfl)) (hg : o.guard = some (j, b) := by rfl) (hd : (ops[j]?).bind (·.dst) = some d := by rfl) (hb : evA t (.tmp d) = .sc (.bool b) := by rfl) : AL P ops K (o :: l) t st := by subst ht; exact AL.on hg hd hb (AOpB.op (ARd.opB h hk))
theorem AL.rf {o : Oper} {t' : List AV} {j d : Nat} {b c : Bool} (hk : AL P ops K l t' st) (ht : putA t o.dst (.sc undef) = t' := by (try simp only [putA, evA, List.getD_cons_zero, List.getD_cons_succ, List.set_cons_zero, List.set_cons_succ, List.length_map, KR, splA, List.map_cons, List.map_nil, List.length_append, List.length_cons, List.length_nil, List.drop_zero, csS_len, csS_take, csS_drop, csS_app, byA_len, byA_take, byA_drop, byA_app, ← List.map_take, ← List.map_drop, ← List.map_append]); (try rfl)) (hg : o.guard = some (j, b) := by rfl) (hd : (ops[j]?).bind (·.dst) = some d := by rfl) (hb : evA t (.tmp d) = .sc (.bool c) := by rfl) (hne : c = !b := by rfl) : AL P ops K (o :: l) t st := by subst ht; exact AL.off hg hd hb hne hk
theorem AL.ru {o : Oper} {t' : List AV} {j d : Nat} {b : Bool} {v : Value} (hk : AL P ops K l t' st) (ht : putA t o.dst (.sc undef) = t' := by (try simp only [putA, evA, List.getD_cons_zero, List.getD_cons_succ, List.set_cons_zero, List.set_cons_succ, List.length_map, KR, splA, List.map_cons, List.map_nil, List.length_append, List.length_cons, List.length_nil, List.drop_zero, csS_len, csS_take, csS_drop, csS_app, byA_len, byA_take, byA_drop, byA_app, ← List.map_take, ← List.map_drop, ← List.map_append]); (try rfl)) (hg : o.guard = some (j, b) := by rfl) (hd : (ops[j]?).bind (·.dst) = some d := by rfl) (hb : evA t (.tmp d) = .sc v := by rfl) (hv : (match v with | .bool _ => false | _ => true) = true := by rfl) : AL P ops K (o :: l) t st := by subst ht; exact AL.offu hg hd hb hv hk
theorem AD.r {o : Oper} {x : AV} {t' : List AV} {fuel : Nat} {listed : Array Bool} (i : Nat) (hi : l[i]? = some o) (h : ARd P o t st x) (hw : WantA l.toArray o t true) (hk : AD P l K fuel (listed.setIfInBounds i true) t' st) (ht : putA t o.dst x = t' := by (try simp only [putA, evA, List.getD_cons_zero, List.getD_cons_succ, List.set_cons_zero, List.set_cons_succ, List.length_map, KR, splA, List.map_cons, List.map_nil, List.length_append, List.length_cons, List.length_nil, List.drop_zero, csS_len, csS_take, csS_drop, csS_app, byA_len, byA_take, byA_drop, byA_app, ← List.map_take, ← List.map_drop, ← List.map_append]); (try rfl)) (hs : Region.noSelect l.toArray = true := by kernel_rfl) (hf : Region.free .any l.toArray listed i = true := by kernel_rfl) (hr : (Region.ready .any l.toArray listed).contains i = true := by kernel_rfl) : AD P l K (fuel + 1) listed t st := by subst ht; exact AD.take i hi hs hf hr hw h hk
theorem AD.s {o : Oper} {t' : List AV} {fuel : Nat} {listed : Array Bool} (i : Nat) (hi : l[i]? = some o) (hw : WantA l.toArray o t false) (hk : AD P l K fuel (listed.setIfInBounds i true) t' st) (ht : putA t o.dst (.sc undef) = t' := by (try simp only [putA, evA, List.getD_cons_zero, List.getD_cons_succ, List.set_cons_zero, List.set_cons_succ, List.length_map, KR, splA, List.map_cons, List.map_nil, List.length_append, List.length_cons, List.length_nil, List.drop_zero, csS_len, csS_take, csS_drop, csS_app, byA_len, byA_take, byA_drop, byA_app, ← List.map_take, ← List.map_drop, ← List.map_append]); (try rfl)) (hs : Region.noSelect l.toArray = true := by kernel_rfl) (hf : Region.free .any l.toArray listed i = true := by kernel_rfl) (hr : (Region.ready .any l.toArray listed).contains i = true := by kernel_rfl) : AD P l K (fuel + 1) listed t st := by subst ht; exact AD.skip i hi hs hf hr hw hk

variable {o : Oper} {k : AV → List TK → Prop}
theorem bs_set {T e sz by_ n : Nat} {parts : Array (Nat × Operand)} {qs : List (Nat × List AV)} {cs' : List AV} {xs ys : List (List AV)} {zl : List Value} (ho : o.op = .buildSlice T n parts) (hT : apI P T = some (e, sz, by_)) (hz : zeroC P e = some zl) (hq : partsA t st parts.toList = some qs) (hf : fillA (fun i => some (i * sz, sz)) (List.replicate (n * sz) .any) qs = some cs') (h : k (.sl ys) st)
    (hx : chunkA n sz cs' = xs := by (try simp only [chunkA, splA, Nat.reduceMul, List.replicate_succ, List.replicate_zero, List.set_cons_zero, List.set_cons_succ, List.take_succ_cons, List.take_zero, List.drop_succ_cons, List.drop_zero]); (try rfl)) (hsd : setd xs = some ys := by rfl) (hsz : n * sz ≤ 16777216 := by decide) : AOpB P o t st k := by
  subst hx
  have hlen : cs'.length = n * sz := by rw [fillA_len _ _ _ _ hf, List.length_replicate]
  obtain ⟨h1, h2, h3⟩ := chunk_spec sz n cs' hlen
  exact op_bslice _ ho hT hz hq (by rw [h1]; exact hf) h2 h3 hsd hsz h
theorem bs_own {T e sz by_ n : Nat} {parts : Array (Nat × Operand)} {qs : List (Nat × List AV)} {cs' : List AV} {xs ys : List (List AV)} {zl : List Value} (kt : Nat) {tk : TK} (ho : o.op = .buildSlice T n parts) (hT : apI P T = some (e, sz, by_)) (hz : zeroC P e = some zl) (hq : partsA t st parts.toList = some qs) (hf : fillA (fun i => some (i * sz, sz)) (List.replicate (n * sz) .any) qs = some cs') (hk : st[kt]? = some tk) (h : k (.ow kt (tk.g + 1)) (st.set kt ⟨tk.g + 1, .own e sz ys⟩))
    (hx : chunkA n sz cs' = xs := by (try simp only [chunkA, splA, Nat.reduceMul, List.replicate_succ, List.replicate_zero, List.set_cons_zero, List.set_cons_succ, List.take_succ_cons, List.take_zero, List.drop_succ_cons, List.drop_zero]); (try rfl)) (hsd : setd xs = some ys := by rfl) (hsz : n * sz ≤ 16777216 := by decide) : AOpB P o t st k := by
  subst hx
  have hlen : cs'.length = n * sz := by rw [fillA_len _ _ _ _ hf, List.length_replicate]
  obtain ⟨h1, h2, h3⟩ := chunk_spec sz n cs' hlen
  exact op_bslice_own kt _ ho hT hz hq (by rw [h1]; exact hf) h2 h3 hsd hsz hk h
theorem Sk.eq {scr : List Nat} (i : Nat) {x y : TK} {a b : List TK} (e : x = y) (h : Sk scr (i + 1) a b) : Sk scr i (x :: a) (y :: b) := by subst e; exact .same i h
/-- An own slice that began nil. -/
def owN (el sz : Nat) : List (List AV) → TC
  | [] => .nown el sz
  | x :: xs => .own el sz (x :: xs)
theorem setA_owN {k g el sz : Nat} {xs : List (List AV)} (hk : st[k]? = some ⟨g, owN el sz xs⟩) : setA st (.ow k g) = some (.sl xs) := by
  cases xs with
  | nil => simp [setA, set1, set0, nz, hk, owN]
  | cons x xs => simp [setA, set1, set0, nz, hk, owN]
theorem op_appendN {s x : Operand} {T e kt g sz by_ : Nat} {xs ys : List (List AV)} (ho : o.op = .call { callee := .builtin .append, args := #[s, x], argTypes := #[T, T] }) (hT : apI P T = some (e, sz, by_)) (hs : evA t s = .ow kt g) (hk : st[kt]? = some ⟨g, owN e sz xs⟩) (hx : Src t st x sz ys) (hne : ys ≠ []) (hsz : (xs.length + ys.length) * by_ ≤ 140737488355328) (hml : xs.length + ys.length ≤ 9223372036854775807)
    (h : k (.ow kt (g + 1)) (st.set kt ⟨g + 1, owN e sz (xs ++ ys)⟩)) : AOp P o t st k := by
  cases xs with
  | nil =>
    refine AOpB.op (op_append0 (tk := ⟨g, .nown e sz⟩) kt ho hT (.inl ⟨e, sz, hs, rfl⟩) hk hx hne (by simpa using hsz) (by simpa using hml) ?_)
    cases ys with
    | nil => exact absurd rfl hne
    | cons y ys => exact h
  | cons z zs => exact op_append ho hT hs hk hx hsz hml h
theorem rd_len_owN {x : Operand} {T e el n kt g sz : Nat} {xs : List (List AV)} (ho : o.op = .call { callee := .builtin .len, args := #[x], argTypes := #[T] }) (hT : elT P T = some (e, n)) (hx : evA t x = .ow kt g) (hk : st[kt]? = some ⟨g, owN el sz xs⟩) : ARd P o t st (.sc (.int .i64 xs.length)) := by
  cases xs with
  | nil => exact rd_len_ow0 ho hT hx hk
  | cons z zs => exact rd_len_ow ho hT hx hk
def isBo (P : Program) (t : TypeId) : Bool := match P.underlying t with | some .bool => true | _ => false
theorem rd_beql {x y : Operand} {xt yt : TypeId} {a b : Bool} (ho : o.op = .binOp .eql xt x y yt) (hT : isBo P xt = true) (hx : evV t x = some (.bool a)) (hy : evV t y = some (.bool b)) : ARd P o t st (.sc (.bool (a == b))) :=
  rd_bin ho hx hy fun w => by
    have hu : P.underlying xt = some .bool := by unfold isBo at hT; split at hT <;> simp_all
    have h10 : (Op.equalIn 10000 xt (.bool a) (.bool b)).run P w = .ok (a == b) w := run_equalIn_bool (P := P) w 9999 xt a b hu
    simp [eqGuard, binOp, Op.equal, Op.maxDepth, Sem.run_bind, h10]
theorem rd_bneq {x y : Operand} {xt yt : TypeId} {a b : Bool} (ho : o.op = .binOp .neq xt x y yt) (hT : isBo P xt = true) (hx : evV t x = some (.bool a)) (hy : evV t y = some (.bool b)) : ARd P o t st (.sc (.bool (!(a == b)))) :=
  rd_bin ho hx hy fun w => by
    have hu : P.underlying xt = some .bool := by unfold isBo at hT; split at hT <;> simp_all
    have h10 : (Op.equalIn 10000 xt (.bool a) (.bool b)).run P w = .ok (a == b) w := run_equalIn_bool (P := P) w 9999 xt a b hu
    simp [eqGuard, binOp, Op.equal, Op.maxDepth, Sem.run_bind, h10]
theorem take_map_next {α : Type} {l : List α} {f : α → List AV} {j : Nat} (h : j < l.length) : (l.take j).map f ++ [f l[j]] = (l.take (j + 1)).map f := by rw [List.take_succ_eq_append_getElem h, List.map_append]; rfl
theorem take_filter_t {α : Type} {l : List α} {p : α → Bool} {f : α → List AV} {j : Nat} (h : j < l.length) (hp : p l[j] = true) : ((l.take j).filter p).map f ++ [f l[j]] = ((l.take (j + 1)).filter p).map f := by
  rw [List.take_succ_eq_append_getElem h, List.filter_append]
  simp [hp]
theorem take_filter_f {α : Type} {l : List α} {p : α → Bool} {f : α → List AV} {j : Nat} (h : j < l.length) (hp : p l[j] = false) : ((l.take j).filter p).map f = ((l.take (j + 1)).filter p).map f := by
  rw [List.take_succ_eq_append_getElem h, List.filter_append]
  simp [hp]
end
end Go.Proofs.Ytgjpeldgjpgbcaa
