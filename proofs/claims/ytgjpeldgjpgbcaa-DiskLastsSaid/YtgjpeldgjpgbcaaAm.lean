/- Walks over abstract states: bytes of a constant, full slices, normal forms. No conditions. -/
import Derived.Test.YtgjpeldgjpgbcaaAl
namespace Go.Proofs.Ytgjpeldgjpgbcaa
set_option linter.unusedSimpArgs false
set_option linter.unusedVariables false
open Go.RowKit

section
variable {P : Program} {o : Oper} {t : List AV} {st : List TK} {x y s : Operand} {K : AV → List TK → Prop} {F : Nat → Prop} {ρ : Loc} {w0 : Bs} {w w' : World} {v : Value} {z : AV}
theorem RepS.cells (hc : ∀ a, w'.cell? a = w.cell? a) (h : RepS F w v z) : RepS F w' v z := by
  induction h with
  | sc v => exact .sc v
  | sl0 A c hc => exact .sl0 A c hc
  | sl1 b off n c sz V xs hn h0 hnc hc' hsz hf hl hv h1 hr ih => exact .sl1 b off n c sz V xs hn h0 hnc hc' hsz hf hl (fun i j hi hj => by rw [hc]; exact hv i j hi hj) h1 ih
  | ag vs cs hs h1 hr ih => exact .ag vs cs hs h1 ih
  | tu vs cs hs hr ih => exact .tu vs cs hs ih
theorem ARdP.rd (h : ARdP P o t st z) : ARd P o t st z := fun F ρ w0 w a hs hm => by
  obtain ⟨v, h1, h2⟩ := h F ρ w0 w a hs hm
  exact ⟨v, h1, fun w' _ => h2 w'⟩
/-- An array that is made of parts. -/
theorem rdP_buildA {T n e sz : Nat} {parts : Array (Nat × Operand)} {zl : List Value} {qs : List (Nat × List AV)} {cs : List AV} (ho : o.op = .build T parts) (hT : arT P T = some (n, e, sz)) (hz : zeroC P T = some zl) (hq : partsA t st parts.toList = some qs) (hf : fillA (fun i => some (i * sz, sz)) (zl.map .sc) qs = some cs) : ARdP P o t st (.ag cs) := fun F ρ w0 w a hs hm => by
  obtain ⟨h1, h2⟩ := parts_rep hm parts.toList qs hq
  obtain ⟨hu, inf, hi1, hi2⟩ := ar_parts hT
  unfold zeroC at hz
  cases hi : P.info? T with
  | none => rw [hi] at hz; cases hz
  | some i =>
    rw [hi] at hz
    cases hzz : i.zero with
    | none => simp [hzz] at hz
    | some zv =>
      simp [hzz] at hz
      obtain ⟨hone, rfl⟩ := hz
      obtain ⟨vs', g1, g2, g3, g4⟩ := fill_rel (R := Rep F ρ st w) (fun i => some (i * sz, sz)) (parts.toList.map fun p => (p.1, a.eval p.2)) qs zv.cells (zv.cells.toList.map .sc) cs h1 h2 (by simp) (fun u hu => by
          obtain ⟨j, hj, rfl⟩ := Array.mem_iff_getElem.1 hu
          exact hone j hj) (fun j v x hv hx => by
          simp at hx
          rw [hv] at hx
          simp at hx
          subst hx
          exact .sc v) hf
      refine ⟨.agg vs', .ag vs' cs g2 g3 g4, fun w' => ?_⟩
      have e : (parts.map fun (i, x) => (i, a.eval x)).toList = parts.toList.map fun p => (p.1, a.eval p.2) := by simp
      simp only [execOp, ho, Instr.build, zeroValue, typeInfo, Sem.run_bind]
      simp only [run_program, hi, hzz, Sem.run_bind, Sem.run_pure, Result.andThen_ok, run_underlying hu, sizeOf, typeInfo, hi1, hi2, e, g1]
theorem rd_buildA {T n e sz : Nat} {parts : Array (Nat × Operand)} {zl : List Value} {qs : List (Nat × List AV)} {cs : List AV} (ho : o.op = .build T parts) (hT : arT P T = some (n, e, sz)) (hz : zeroC P T = some zl) (hq : partsA t st parts.toList = some qs) (hf : fillA (fun i => some (i * sz, sz)) (zl.map .sc) qs = some cs) : ARd P o t st (.ag cs) := (rdP_buildA ho hT hz hq hf).rd
/-- An own slice's block is written, and settled. -/
theorem St.spend (hs : St F ρ st w0 w) {k g : Nat} {tc : TC} (hk : st[k]? = some ⟨g, tc⟩) (hbk : tc.blk) (hg : w.grownBy w' (some (ρ k).1)) : St F ρ (st.set k ⟨g, .off⟩) w0 w' ∧ Mv F ρ st w ρ (st.set k ⟨g, .off⟩) w' := by
  have hmv : Mv F ρ st w ρ (st.set k ⟨g, .off⟩) w' := Mv.upd hk (fun _ _ => rfl) (fun b o hf ho => ⟨fun h => h, (hg.block b (Array.getElem?_eq_some_iff.1 ho).1 fun e => hf.ne k _ hk hbk (by injection e with e; exact e.symm)).trans ho⟩) (.inr (.inr (.inl ⟨rfl, rfl⟩)))
  exact ⟨hs.upd hk (fun _ _ => rfl) (hs.below.grown hg fun b e => by injection e with e; subst e; exact (hs.geB k _ hk hbk).1.1) hg.size hmv (fun j q b hj hq hf => hg.block b (hs.ge j q b hq hf).2 fun e => hj (hs.inj j q k _ b hq hf hk (by injection e with e; exact e ▸ foot_self hbk))) (fun b hf => hf.elim) (fun j q b hj hq hf hf' => hf') (fun ty cs e => by cases e) (fun el' sz' xs' e => by cases e) (fun p e => by cases e), hmv⟩
def byT (P : Program) (T : TypeId) : Bool := match P.underlying T with | some (.slice e) => (match P.underlying e with | some (.int .u8) => true | _ => false) | _ => false
/-- The bytes of a constant text. -/
theorem op_conv_own {T k g el sz : Nat} {xs : List (List AV)} (ho : o.op = .convert T T x) (hT : byT P T = true) (hx : evA t x = .ow k g) (hk : st[k]? = some ⟨g, .own el sz xs⟩) (h : K (.sl xs) (st.set k ⟨g, .off⟩)) : AOp P o t st K := fun F ρ w0 w a hs hm next Q hn => by
  obtain ⟨e, hu, he⟩ : ∃ e, P.underlying T = some (.slice e) ∧ P.underlying e = some (.int .u8) := by
    unfold byT at hT
    split at hT
    · rename_i e hu
      split at hT
      · rename_i he; exact ⟨e, hu, he⟩
      · cases hT
    · cases hT
  have hv := hm.ev x
  rw [hx] at hv
  have hv' := hv.ow_inv hk
  obtain ⟨vs, h1, h2, h3, h4, h5⟩ := hs.own k g el sz xs hk
  obtain ⟨cur, hcur⟩ : ∃ cur, w.heap[(ρ k).1]? = some (.cells cur el (0, 0)) := by
    rcases h1.2 with ⟨a1, _⟩ | ⟨g', cap, cur, a1, a2, a3, _⟩
    · cases a1
    · injection a1 with b1
      injection b1 with b1
      injection b1 with b1
      subst b1
      exact ⟨cur, a3⟩
  have hsh : w.shape? (ρ k).1 = some (el, cur.size) := by unfold World.shape?; rw [hcur]
  obtain ⟨w', hw'⟩ : ∃ w', w' = w.freeze ⟨(ρ k).1, cur.size, none⟩ 1 := ⟨_, rfl⟩
  have hrun : (execOp a.eval o).run P w = .ok (.value (.slice (some ⟨(ρ k).1, 0, none⟩) xs.length (ρ k).2)) w' := by
    rw [hw']
    simp only [execOp, ho, hv', convert, Sem.run_bind, run_underlying hu, run_underlying he, Result.andThen_ok]
    simp [markStringish, hsh, Sem.run_bind, run_underlying he]
  obtain ⟨f, hheap, fr, hfr⟩ : ∃ f : Obj → Obj, w'.heap = w.heap.modify (ρ k).1 f ∧ ∃ fr, f (.cells cur el (0, 0)) = .cells cur el fr := by
    rw [hw']
    unfold World.freeze
    rw [if_neg (by decide)]
    dsimp only
    refine ⟨_, rfl, ?_⟩
    exact ⟨_, rfl⟩
  have hg : w.grownBy w' (some (ρ k).1) := by
    refine ⟨by rw [hw']; unfold World.freeze; rw [if_neg (by decide)], by rw [hw']; unfold World.freeze; rw [if_neg (by decide)], by rw [hw']; unfold World.freeze; rw [if_neg (by decide)], by rw [hheap]; simp, fun b hb hne => ?_⟩
    rw [hheap, Array.getElem?_modify, if_neg (fun e => hne (by rw [e]))]
  have hcell : ∀ a, w'.cell? a = w.cell? a := fun ad => by
    by_cases e : ad.block = (ρ k).1
    · have h1 : w'.heap[ad.block]? = some (.cells cur el fr) := by rw [hheap, Array.getElem?_modify, if_pos e.symm, e, hcur]; exact congrArg some hfr
      have h2 : w.heap[ad.block]? = some (.cells cur el (0, 0)) := by rw [e]; exact hcur
      simp [World.cell?, h1, h2]
    · have h1 : w'.heap[ad.block]? = w.heap[ad.block]? := by rw [hheap, Array.getElem?_modify, if_neg (fun e' => e e'.symm)]
      simp [World.cell?, h1]
  obtain ⟨hs', hmv⟩ := hs.spend hk (by simp) hg
  obtain ⟨_, _, hset⟩ := hs.settle hk (xs := xs) rfl
  have hrep := (hset (.slice (some ⟨(ρ k).1, 0, none⟩) xs.length (ρ k).2) (by rw [← hv']; exact hv)).sl_s.cells hcell
  unfold Oper.wp
  rw [hrun]
  exact hn _ w' ρ _ _ hs' hmv (.s hrep) h
/-- A beginning, full. -/
theorem rd_slice3_sl {T e n sz : Nat} {xs : List (List AV)} {hi mx : Operand} {ik ik' : IntKind} {I I' : Int} (ho : o.op = .slice T x none (some hi) (some mx)) (hT : elT P T = some (e, sz)) (hx : evA t x = .sl xs) (hy : evV t hi = some (.int ik I)) (hy' : evV t mx = some (.int ik' I')) (hI : I = (n : Int)) (hI' : I' = (n : Int)) (hn : n ≤ xs.length) : ARd P o t st (.sl (xs.take n)) := fun F ρ w0 w a hs hm => by
  subst hI hI'
  have h := hm.ev x
  rw [hx] at h
  have h := h.sl_s
  obtain ⟨hu, inf, hi1, hi2⟩ := el_under hT
  obtain ⟨A, c, hv, hnc, hcm⟩ := h.sl_inv
  have hnC : (n : Int) ≤ (c : Int) := by omega
  refine ⟨.slice (if n = 0 then A else A.map (·.add (0 * sz))) n n, ?_, fun w' _ => ?_⟩
  · rcases Nat.eq_zero_or_pos n with h0 | h0
    · subst h0
      rw [List.take_zero]
      exact .s (.sl0 _ _ (Nat.zero_le _))
    · generalize hq : a.eval x = q at *
      cases h with
      | sl0 => simp at hn; omega
      | sl1 b off m' c' sz' V _ hn' h0' hnc' hcm' hsz hf hl' hv' h1' hr =>
        injection hv with hv1 hv2 hv3
        subst hv1 hv3
        rw [if_neg (by omega)]
        simp only [Option.map_some, Addr.add_mid, Nat.zero_mul, Nat.add_zero]
        refine .s (.sl1 b off n n sz' V _ (by simp; omega) h0 (Nat.le_refl _) (by omega) hsz hf (fun i cs hcs => ?_) (fun i j hi hj => hv' i j (by omega) hj) h1' (fun i j cs x hcs hx => ?_))
        · rw [List.getElem?_take] at hcs
          split at hcs
          · exact hl' i cs hcs
          · cases hcs
        · rw [List.getElem?_take] at hcs
          split at hcs
          · exact hr i j cs x hcs hx
          · cases hcs
  · simp only [execOp, ho, Instr.sliceAt, Instr.slice, hv, Sem.run_bind, run_underlying hu, Result.andThen_ok, Option.map_none, Option.map_some, hm.val hy, hm.val hy', Instr.sliceBounds, Instr.sliceBound, asIntOf, Sem.run_pure]
    simp [hnC, Sem.run_bind, sizeOf, typeInfo, hi1, hi2]
end
section
variable {P : Program} {ops : Array Oper} {K : List AV → List TK → Prop} {l : List Oper} {t : List AV} {st : List TK} {Q : APost} {c : Code} {fuel : Nat} {listed : Array Bool}
theorem live_own {k g el sz : Nat} {xs : List (List AV)} (hk : st[k]? = some ⟨g, .own el sz xs⟩) : liveA st (.ow k g) = true := by simp [liveA, hk, TC.isO]
theorem live_nown {k g el sz : Nat} (hk : st[k]? = some ⟨g, .nown el sz⟩) : liveA st (.ow k g) = true := by simp [liveA, hk, TC.isO]
theorem live_box {k g o : Nat} {c : TC} (hk : st[k]? = some ⟨g, c⟩) (hc : c.isB = true) : liveA st (.bx k g o) = true := by simp [liveA, hk, hc]
theorem resO_bx {n k g o : Nat} {c : TC} (hn : k < n) (hk : st[k]? = some ⟨g, c⟩) (hc : c.isB = true := by rfl) : resO1 n st (.bx k g o) = some (.bx k g o) := by
  simp [resO1, nz, resO0, hn, liveA, hk, hc]
theorem resO_own {n k g el sz : Nat} {xs : List (List AV)} (hn : k < n) (hk : st[k]? = some ⟨g, .own el sz xs⟩) : resO1 n st (.ow k g) = some (.ow k g) := by
  simp [resO1, nz, resO0, hn, liveA, hk, TC.isO]
theorem resO_owM {n k g el sz : Nat} {b : Bool} {xs : List (List AV)} (hn : k < n) (hk : st[k]? = some ⟨g, owM b el sz xs⟩) : resO1 n st (.ow k g) = some (.ow k g) := by
  simp [resO1, nz, resO0, hn, liveA, hk, isO_owM]
theorem resO_set {n k g el sz : Nat} {xs : List (List AV)} (hn : n ≤ k) (hk : st[k]? = some ⟨g, .own el sz xs⟩) : resO1 n st (.ow k g) = some (.sl xs) := by
  simp [resO1, nz, resO0, Nat.not_lt.2 hn, set0, hk]
theorem resO_setM {n k g el sz : Nat} {b : Bool} {xs : List (List AV)} (hn : n ≤ k) (hk : st[k]? = some ⟨g, owM b el sz xs⟩) : resO1 n st (.ow k g) = some (.sl xs) := by
  cases xs <;> cases b <;> simp [resO1, nz, resO0, Nat.not_lt.2 hn, set0, hk, owM]
theorem thenA_ret {R : List AV → List TK → Prop} (h : Q .ret t st) : thenA R Q .ret t st := h
theorem inBlockA_ret {id : Nat} (h : Q .ret t st) : inBlockA id Q .ret t st := h
theorem retO_ret {fn : Func} {n : Nat} {R : AV → List TK → Prop} (h : ResO P fn n R t st) : retO P fn n R .ret t st := h
theorem retO_normal {fn : Func} {n : Nat} {R : AV → List TK → Prop} (h : ResO P fn n R t st) : retO P fn n R .normal t st := h
theorem renC_box {ks : List Nat} {ty : TypeId} {cs : List AV} : renC ks (.box ty cs) = .box ty (cs.map (ren0 ks)) := rfl
theorem renC_own {ks : List Nat} {el sz : Nat} {xs : List (List AV)} : renC ks (.own el sz xs) = .own el sz xs := rfl
theorem renC_nown {ks : List Nat} {el sz : Nat} : renC ks (.nown el sz) = .nown el sz := rfl
theorem renC_obj {ks : List Nat} {p : OP} : renC ks (.obj p) = .obj p := rfl
theorem renC_off {ks : List Nat} : renC ks .off = .off := rfl
theorem AL.no {t' : List AV} {st' : List TK} (h : AL P ops K l t' st') (ht : t = t' := by (try simp only [putA, evA, List.getD_cons_zero, List.getD_cons_succ, List.set_cons_zero, List.set_cons_succ, List.length_map, KR, splA, List.map_cons, List.map_nil, List.length_append, List.length_cons, List.length_nil, List.drop_zero, csS_len, csS_take, csS_drop, csS_app, byA_len, byA_take, byA_drop, byA_app, ← List.map_take, ← List.map_drop, ← List.map_append, List.take_succ_cons, List.take_zero, List.drop_succ_cons, List.cons_append, List.nil_append, Nat.zero_add, Nat.reduceAdd, Nat.reduceMul, Nat.add_zero, Nat.mul_one, putT, renT, renC_owM, renC_box, renC_own, renC_nown, renC_obj, renC_off, ren2, ren1, ren0, ok1, ok2]); (try rfl)) (hs : st = st' := by (try simp only [putA, evA, List.getD_cons_zero, List.getD_cons_succ, List.set_cons_zero, List.set_cons_succ, List.length_map, KR, splA, List.map_cons, List.map_nil, List.length_append, List.length_cons, List.length_nil, List.drop_zero, csS_len, csS_take, csS_drop, csS_app, byA_len, byA_take, byA_drop, byA_app, ← List.map_take, ← List.map_drop, ← List.map_append, List.take_succ_cons, List.take_zero, List.drop_succ_cons, List.cons_append, List.nil_append, Nat.zero_add, Nat.reduceAdd, Nat.reduceMul, Nat.add_zero, Nat.mul_one, putT, renT, renC_owM, renC_box, renC_own, renC_nown, renC_obj, renC_off, ren2, ren1, ren0, ok1, ok2]); (try rfl)) : AL P ops K l t st := by subst ht hs; exact h
theorem ADA.n {t' : List AV} {st' : List TK} (h : ADA P l K fuel listed t' st') (ht : t = t' := by (try simp only [putA, evA, List.getD_cons_zero, List.getD_cons_succ, List.set_cons_zero, List.set_cons_succ, List.length_map, KR, splA, List.map_cons, List.map_nil, List.length_append, List.length_cons, List.length_nil, List.drop_zero, csS_len, csS_take, csS_drop, csS_app, byA_len, byA_take, byA_drop, byA_app, ← List.map_take, ← List.map_drop, ← List.map_append, List.take_succ_cons, List.take_zero, List.drop_succ_cons, List.cons_append, List.nil_append, Nat.zero_add, Nat.reduceAdd, Nat.reduceMul, Nat.add_zero, Nat.mul_one, putT, renT, renC_owM, renC_box, renC_own, renC_nown, renC_obj, renC_off, ren2, ren1, ren0, ok1, ok2]); (try rfl)) (hs : st = st' := by (try simp only [putA, evA, List.getD_cons_zero, List.getD_cons_succ, List.set_cons_zero, List.set_cons_succ, List.length_map, KR, splA, List.map_cons, List.map_nil, List.length_append, List.length_cons, List.length_nil, List.drop_zero, csS_len, csS_take, csS_drop, csS_app, byA_len, byA_take, byA_drop, byA_app, ← List.map_take, ← List.map_drop, ← List.map_append, List.take_succ_cons, List.take_zero, List.drop_succ_cons, List.cons_append, List.nil_append, Nat.zero_add, Nat.reduceAdd, Nat.reduceMul, Nat.add_zero, Nat.mul_one, putT, renT, renC_owM, renC_box, renC_own, renC_nown, renC_obj, renC_off, ren2, ren1, ren0, ok1, ok2]); (try rfl)) : ADA P l K fuel listed t st := by subst ht hs; exact h
theorem ADB.n {t' : List AV} {st' : List TK} (h : ADB P l K fuel listed t' st') (ht : t = t' := by (try simp only [putA, evA, List.getD_cons_zero, List.getD_cons_succ, List.set_cons_zero, List.set_cons_succ, List.length_map, KR, splA, List.map_cons, List.map_nil, List.length_append, List.length_cons, List.length_nil, List.drop_zero, csS_len, csS_take, csS_drop, csS_app, byA_len, byA_take, byA_drop, byA_app, ← List.map_take, ← List.map_drop, ← List.map_append, List.take_succ_cons, List.take_zero, List.drop_succ_cons, List.cons_append, List.nil_append, Nat.zero_add, Nat.reduceAdd, Nat.reduceMul, Nat.add_zero, Nat.mul_one, putT, renT, renC_owM, renC_box, renC_own, renC_nown, renC_obj, renC_off, ren2, ren1, ren0, ok1, ok2]); (try rfl)) (hs : st = st' := by (try simp only [putA, evA, List.getD_cons_zero, List.getD_cons_succ, List.set_cons_zero, List.set_cons_succ, List.length_map, KR, splA, List.map_cons, List.map_nil, List.length_append, List.length_cons, List.length_nil, List.drop_zero, csS_len, csS_take, csS_drop, csS_app, byA_len, byA_take, byA_drop, byA_app, ← List.map_take, ← List.map_drop, ← List.map_append, List.take_succ_cons, List.take_zero, List.drop_succ_cons, List.cons_append, List.nil_append, Nat.zero_add, Nat.reduceAdd, Nat.reduceMul, Nat.add_zero, Nat.mul_one, putT, renT, renC_owM, renC_box, renC_own, renC_nown, renC_obj, renC_off, ren2, ren1, ren0, ok1, ok2]); (try rfl)) : ADB P l K fuel listed t st := by subst ht hs; exact h
theorem ADA.r {o : Oper} {x : AV} {t' : List AV} (i : Nat) (hi : l[i]? = some o) (h : ARdA P o t st x) (hw : WantA l.toArray o t true) (hk : ADA P l K fuel (listed.setIfInBounds i true) t' st) (ht : putA t o.dst x = t' := by (try simp only [putA, evA, List.getD_cons_zero, List.getD_cons_succ, List.set_cons_zero, List.set_cons_succ, List.length_map, KR, splA, List.map_cons, List.map_nil, List.length_append, List.length_cons, List.length_nil, List.drop_zero, csS_len, csS_take, csS_drop, csS_app, byA_len, byA_take, byA_drop, byA_app, ← List.map_take, ← List.map_drop, ← List.map_append, List.take_succ_cons, List.take_zero, List.drop_succ_cons, List.cons_append, List.nil_append, Nat.zero_add, Nat.reduceAdd, Nat.reduceMul, Nat.add_zero, Nat.mul_one, putT, renT, renC_owM, renC_box, renC_own, renC_nown, renC_obj, renC_off, ren2, ren1, ren0, ok1, ok2]); (try rfl)) (hs : Region.noSelect l.toArray = true := by kernel_rfl) (hf : Region.free .any l.toArray listed i = true := by kernel_rfl) (hr : (Region.ready .any l.toArray listed).contains i = true := by kernel_rfl) : ADA P l K (fuel + 1) listed t st := by subst ht; exact ADA.take i hi hs hf hr hw h hk
theorem ADA.s {o : Oper} {t' : List AV} (i : Nat) (hi : l[i]? = some o) (hw : WantA l.toArray o t false) (hk : ADA P l K fuel (listed.setIfInBounds i true) t' st) (ht : putA t o.dst (.sc undef) = t' := by (try simp only [putA, evA, List.getD_cons_zero, List.getD_cons_succ, List.set_cons_zero, List.set_cons_succ, List.length_map, KR, splA, List.map_cons, List.map_nil, List.length_append, List.length_cons, List.length_nil, List.drop_zero, csS_len, csS_take, csS_drop, csS_app, byA_len, byA_take, byA_drop, byA_app, ← List.map_take, ← List.map_drop, ← List.map_append, List.take_succ_cons, List.take_zero, List.drop_succ_cons, List.cons_append, List.nil_append, Nat.zero_add, Nat.reduceAdd, Nat.reduceMul, Nat.add_zero, Nat.mul_one, putT, renT, renC_owM, renC_box, renC_own, renC_nown, renC_obj, renC_off, ren2, ren1, ren0, ok1, ok2]); (try rfl)) (hs : Region.noSelect l.toArray = true := by kernel_rfl) (hf : Region.free .any l.toArray listed i = true := by kernel_rfl) (hr : (Region.ready .any l.toArray listed).contains i = true := by kernel_rfl) : ADA P l K (fuel + 1) listed t st := by subst ht; exact ADA.skip i hi hs hf hr hw hk
theorem ADB.r {o : Oper} {x : AV} {t' : List AV} (i : Nat) (hi : l[i]? = some o) (h : ARdP P o t st x) (hw : WantA l.toArray o t true) (hk : ADB P l K fuel (listed.setIfInBounds i true) t' st) (ht : putA t o.dst x = t' := by (try simp only [putA, evA, List.getD_cons_zero, List.getD_cons_succ, List.set_cons_zero, List.set_cons_succ, List.length_map, KR, splA, List.map_cons, List.map_nil, List.length_append, List.length_cons, List.length_nil, List.drop_zero, csS_len, csS_take, csS_drop, csS_app, byA_len, byA_take, byA_drop, byA_app, ← List.map_take, ← List.map_drop, ← List.map_append, List.take_succ_cons, List.take_zero, List.drop_succ_cons, List.cons_append, List.nil_append, Nat.zero_add, Nat.reduceAdd, Nat.reduceMul, Nat.add_zero, Nat.mul_one, putT, renT, renC_owM, renC_box, renC_own, renC_nown, renC_obj, renC_off, ren2, ren1, ren0, ok1, ok2]); (try rfl)) (hs : Region.noSelect l.toArray = true := by kernel_rfl) (hf : Region.free .any l.toArray listed i = true := by kernel_rfl) (hr : (Region.ready .any l.toArray listed).contains i = true := by kernel_rfl) : ADB P l K (fuel + 1) listed t st := by subst ht; exact ADB.take i hi hs hf hr hw h hk
theorem ADB.s {o : Oper} {t' : List AV} (i : Nat) (hi : l[i]? = some o) (hw : WantA l.toArray o t false) (hk : ADB P l K fuel (listed.setIfInBounds i true) t' st) (ht : putA t o.dst (.sc undef) = t' := by (try simp only [putA, evA, List.getD_cons_zero, List.getD_cons_succ, List.set_cons_zero, List.set_cons_succ, List.length_map, KR, splA, List.map_cons, List.map_nil, List.length_append, List.length_cons, List.length_nil, List.drop_zero, csS_len, csS_take, csS_drop, csS_app, byA_len, byA_take, byA_drop, byA_app, ← List.map_take, ← List.map_drop, ← List.map_append, List.take_succ_cons, List.take_zero, List.drop_succ_cons, List.cons_append, List.nil_append, Nat.zero_add, Nat.reduceAdd, Nat.reduceMul, Nat.add_zero, Nat.mul_one, putT, renT, renC_owM, renC_box, renC_own, renC_nown, renC_obj, renC_off, ren2, ren1, ren0, ok1, ok2]); (try rfl)) (hs : Region.noSelect l.toArray = true := by kernel_rfl) (hf : Region.free .any l.toArray listed i = true := by kernel_rfl) (hr : (Region.ready .any l.toArray listed).contains i = true := by kernel_rfl) : ADB P l K (fuel + 1) listed t st := by subst ht; exact ADB.skip i hi hs hf hr hw hk
/-- Whatever is drawn, one state comes out. -/
theorem AW.drawS {id : Nat} {t1 : List AV} {st1 : List TK} (hp : P.follows .mixedOrders = true) (h : ADA P l (fun t st => t = t1 ∧ st = st1) l.length (Array.replicate l.length false) t st) (hk : Q .normal t1 st1) : AW P (.region id l.toArray true) Q t st :=
  AW.drawA hp fun F ρ w0 w a hs hm Q' hq => h F ρ w0 w a hs hm Q' fun ρ' t' st' w' a' h1 h2 h3 => by
    obtain ⟨rfl, rfl⟩ := h3
    exact hq ρ' _ _ w' a' h1 h2 hk
theorem isO_own {el sz : Nat} {xs : List (List AV)} : TC.isO (.own el sz xs) = true := rfl
theorem isO_nown {el sz : Nat} : TC.isO (.nown el sz) = true := rfl
theorem cle_owM {os : List TK} {g el sz : Nat} {b : Bool} {xs : List (List AV)} : cleanT os ⟨g, owM b el sz xs⟩ = true := by cases xs <;> cases b <;> rfl
theorem cle_own {os : List TK} {g el sz : Nat} {xs : List (List AV)} : cleanT os ⟨g, .own el sz xs⟩ = true := rfl
theorem cle_nown {os : List TK} {g el sz : Nat} : cleanT os ⟨g, .nown el sz⟩ = true := rfl
theorem cle_obj {os : List TK} {g : Nat} {p : OP} : cleanT os ⟨g, .obj p⟩ = true := rfl
theorem cle_off {os : List TK} {g : Nat} : cleanT os ⟨g, .off⟩ = true := rfl
theorem cle_box {os : List TK} {g : Nat} {ty : TypeId} {cs : List AV} : cleanT os ⟨g, .box ty cs⟩ = cs.all (okC os) := rfl
theorem ADB.settle (d : Nat) {k g : Nat} {tc : TC} {xs : List (List AV)} (hd : t[d]? = some (.ow k g)) (hk : st[k]? = some ⟨g, tc⟩) (hc : cont tc = some xs) (h : ADB P l K fuel listed (t.set d (.sl xs)) (st.set k ⟨g, .off⟩)) : ADB P l K fuel listed t st := fun F ρ w0 w a B hs hB hm => by
  obtain ⟨h1, h2, h3⟩ := hs.settle hk hc
  obtain ⟨g1, _, _⟩ := hB.settle hk hc
  refine h F ρ w0 w a B h1 g1 ?_
  have hm' := hm.mv h2
  refine ⟨hm'.defers, by simp [hm'.size], fun i v x hv hx => ?_⟩
  rw [List.getElem?_set] at hx
  split at hx
  · rename_i e
    subst e
    split at hx
    · injection hx with hx
      subst hx
      exact h3 v (hm.rep _ v _ hv hd)
    · cases hx
  · exact hm'.rep i v x hv hx
end
end Go.Proofs.Ytgjpeldgjpgbcaa
