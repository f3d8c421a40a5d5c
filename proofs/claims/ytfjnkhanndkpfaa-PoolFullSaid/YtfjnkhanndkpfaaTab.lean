/- Tables: arrays of 256 numbers, as one value; walked over abstract states. No conditions. (Several texts in one.) -/
import Derived.Test.YtfjnkhanndkpfaaMb
import Derived.Test.YtfjnkhanndkpfaaTy
import Derived.Test.YtfjnkhanndkpfaaSumP
import Derived.Laws.BitsAllLaws
/- Tables: arrays of 256 numbers, as one value; walked over abstract states. No conditions. -/
namespace Go.Proofs.Ytfjnkhanndkpfaa
set_option linter.unusedSimpArgs false
set_option linter.unusedVariables false
open Go.RowKit

def tabL (t : Nat → Nat) : List Value := (List.range 256).map fun i => .int .u32 (t i : Nat)
def tabV (t : Nat → Nat) : Value := .agg (tabL t).toArray
def tabA (t : Nat → Nat) : List AV := (tabL t).map .sc
theorem tabL_len (t : Nat → Nat) : (tabL t).length = 256 := by simp [tabL]
theorem tabA_len (t : Nat → Nat) : (tabA t).length = 256 := by simp [tabA, tabL]
theorem tabA_get (t : Nat → Nat) {i : Nat} (h : i < 256) : (tabA t)[i]? = some (.sc (.int .u32 (t i : Nat))) := by simp [tabA, tabL, h]
theorem tab_one (t : Nat → Nat) : (tabL t).toArray.all (·.oneCell') = true := by
  rw [Array.all_eq_true_iff_forall_mem]
  intro x hx
  simp [tabL] at hx
  obtain ⟨i, _, rfl⟩ := hx
  rfl
theorem tab_cells (t : Nat → Nat) : AV.cells? (.sc (tabV t)) = some (tabA t) := by
  simp only [AV.cells?, tabV]
  rw [if_pos (tab_one t)]
  simp [tabA]
theorem tabA_set {t u : Nat → Nat} {i : Nat} (h : i < 256) (hu : ∀ j, j < 256 → u j = if j = i then u i else t j) : (tabA t).set i (.sc (.int .u32 (u i : Nat))) = tabA u := by
  apply List.ext_getElem?
  intro j
  rw [List.getElem?_set]
  rcases Nat.lt_or_ge j 256 with hj | hj
  · rw [tabA_get u hj, tabA_get t hj, hu j hj]
    by_cases e : i = j
    · subst e; simp [tabA_len, hj]
    · rw [if_neg e, if_neg (fun h => e h.symm)]
  · rw [List.getElem?_eq_none (by rw [tabA_len]; omega), List.getElem?_eq_none (by rw [tabA_len]; omega)]
    split
    · rw [if_neg (by rw [tabA_len]; omega)]
    · rfl
theorem tabA_eq {t u : Nat → Nat} (h : ∀ i, i < 256 → t i = u i) : tabA t = tabA u := by
  unfold tabA tabL
  congr 1
  apply List.map_congr_left
  intro i hi
  rw [h i (List.mem_range.1 hi)]
section
variable {P : Program} {o : Oper} {t : List AV} {st : List TK} {x y : Operand} {K : AV → List TK → Prop} {f : Nat → Nat}
/-- A table is put into a box. -/
theorem op_tabbox {ty : TypeId} (k : Nat) {tk : TK} (ho : o.op = .box ty x) (hx : evA t x = .sc (tabV f)) (hk : st[k]? = some tk) (h : K (.bx k (tk.g + 1) 0) (st.set k ⟨tk.g + 1, .box ty (tabA f)⟩)) : AOpB P o t st K := op_box k ho hx (tab_cells f) rfl hk h
theorem Rep.tab {F : Nat → Prop} {ρ : Loc} {w : World} {v : Value} (h : Rep F ρ st w v (.ag (tabA f))) : v = tabV f := by
  refine h.of_val ?_
  have : AV.vals (tabA f) = some (tabL f) := by
    unfold tabA
    generalize tabL f = l
    induction l with
    | nil => rfl
    | cons v l ih => simp only [List.map_cons, AV.vals, ih]
  simp only [AV.val, this, tabV]
/-- A whole table out of a box. -/
theorem rd_tab {ty bt : TypeId} {k g off : Nat} {cs : List AV} (ho : o.op = .load ty x) (hT : agN P ty = some (some 256)) (hx : evA t x = .bx k g off) (hk : st[k]? = some ⟨g, .box bt cs⟩) (hle : off + 256 ≤ cs.length) (hc : (cs.drop off).take 256 = tabA f) : ARd P o t st (.sc (tabV f)) := fun F ρ w0 w a hs hm => by
  obtain ⟨v, h1, h2⟩ := rd_loadN_bx ho hT hx hk hle hc F ρ w0 w a hs hm
  exact ⟨v, h1.tab ▸ .sc _, h2⟩
theorem rd_tab0 {ty bt : TypeId} {k g : Nat} (ho : o.op = .load ty x) (hT : agN P ty = some (some 256)) (hx : evA t x = .bx k g 0) (hk : st[k]? = some ⟨g, .box bt (tabA f)⟩) : ARd P o t st (.sc (tabV f)) := rd_tab ho hT hx hk (by rw [tabA_len]; omega) (by rw [List.drop_zero, List.take_of_length_le (by rw [tabA_len]; omega)])
/-- A whole table into a box. -/
theorem op_tabstore {ty bt : TypeId} {k g : Nat} {f0 : List AV} (ho : o.op = .store ty x y) (hx : evA t x = .bx k g 0) (hk : st[k]? = some ⟨g, .box bt f0⟩) (hl : f0.length = 256) (hy : evA t y = .sc (tabV f)) (hT : szT P ty = some 256) (h : K (.sc undef) (st.set k ⟨g, .box bt (tabA f)⟩)) : AOp P o t st K := by
  refine op_store ho hx hk hy (tab_cells f) rfl (by rw [tabA_len]; exact hT) (by rw [tabA_len, hl]; omega) ?_
  have e : ∀ (zs cs : List AV) (n : Nat), n + zs.length = cs.length → splA cs n zs = cs.take n ++ zs := by
    intro zs
    induction zs with
    | nil => intro cs n hn; simp at hn; subst hn; simp [splA]
    | cons z zs ih =>
      intro cs n hn
      rw [splA, ih _ _ (by simp at hn ⊢; omega)]
      simp at hn
      rw [List.take_succ_eq_append_getElem (by simp; omega), List.take_set, List.set_eq_of_length_le (by simp; omega), List.getElem_set_self]
      simp
  rw [e (tabA f) f0 0 (by rw [tabA_len, hl])]
  simpa using h
end
end Go.Proofs.Ytfjnkhanndkpfaa
/- The operations on abstract states, on: bits, shifts, quotients of numbers from 0 on. No conditions. -/
namespace Go.Proofs.Ytfjnkhanndkpfaa
set_option linter.unusedSimpArgs false
set_option linter.unusedVariables false
open Go.RowKit

theorem not32_nat (S : Nat) (h : S < 4294967296) : 4294967295 ^^^ S = 4294967295 - S := by
  apply Nat.eq_of_testBit_eq
  intro i
  rw [show 4294967295 - S = 2 ^ 32 - (S + 1) by omega, Nat.testBit_two_pow_sub_succ (by omega), Nat.testBit_xor, show 4294967295 = 2 ^ 32 - 1 by omega, Nat.testBit_two_pow_sub_one]
  by_cases hi : i < 32
  · simp [hi]
  · have h2 : S < 2 ^ i := Nat.lt_of_lt_of_le (show S < 2 ^ 32 by omega) (Nat.pow_le_pow_right (by omega) (by omega))
    simp [hi, Nat.testBit_lt_two_pow h2]
theorem wrap_u8 (n : Nat) : IntKind.u8.wrap (n : Int) = ((n % 256 : Nat) : Int) := by rw [show IntKind.u8.wrap (n : Int) = (n : Int) % 256 from rfl]; omega
theorem wrap_u8' (n : Nat) (h : n < 256) : IntKind.u8.wrap (n : Int) = ((n : Nat) : Int) := by rw [wrap_u8, Nat.mod_eq_of_lt h]
theorem wrap_u32 (n : Nat) (h : n < 4294967296) : IntKind.u32.wrap (n : Int) = (n : Int) := by rw [show IntKind.u32.wrap (n : Int) = (n : Int) % 4294967296 from rfl]; omega
theorem wrap_u64 (n : Nat) (h : n < 18446744073709551616) : IntKind.u64.wrap (n : Int) = (n : Int) := by rw [show IntKind.u64.wrap (n : Int) = (n : Int) % 18446744073709551616 from rfl]; omega
theorem wrap_i64 (n : Nat) (h : n < 9223372036854775808) : IntKind.i64.wrap (n : Int) = (n : Int) := IntWalk.i64_in _ (by omega)
section
variable {P : Program} {o : Oper} {t : List AV} {st : List TK} {x y : Operand} {xt yt : TypeId} {k k' : IntKind}
theorem rd_xor {a b r : Int} (ho : o.op = .binOp .xor xt x y yt) (hx : evV t x = some (.int k a)) (hy : evV t y = some (.int k b)) (hr : bits .xor k a b = r) : ARd P o t st (.sc (.int k r)) := rd_bin ho hx hy fun w => by simp [eqGuard, binOp, intBits_xor, Sem.run_bind, hr]
theorem rd_and {a b r : Int} (ho : o.op = .binOp .and xt x y yt) (hx : evV t x = some (.int k a)) (hy : evV t y = some (.int k b)) (hr : bits .and k a b = r) : ARd P o t st (.sc (.int k r)) := rd_bin ho hx hy fun w => by simp [eqGuard, binOp, intBits_and, Sem.run_bind, hr]
theorem rd_or {a b r : Int} (ho : o.op = .binOp .or xt x y yt) (hx : evV t x = some (.int k a)) (hy : evV t y = some (.int k b)) (hr : bits .or k a b = r) : ARd P o t st (.sc (.int k r)) := rd_bin ho hx hy fun w => by simp [eqGuard, binOp, intBits_or, Sem.run_bind, hr]
theorem rd_shr {a c r : Nat} {A C : Int} (ho : o.op = .binOp .shr xt x y yt) (hx : evV t x = some (.int k A)) (hy : evV t y = some (.int k' C)) (hA : A = (a : Int)) (hC : C = (c : Int)) (hc : c ≤ k.bits) (hr : a / 2 ^ c = r) : ARd P o t st (.sc (.int k (r : Int))) := rd_bin ho hx hy fun w => by
  subst hA hC hr
  have h : Op.shift .shr k (a : Int) k' (c : Int) = pure (.int k ((a : Int) / 2 ^ (c : Int).toNat)) := shift_shr k k' (a : Int) (c : Int) (by omega) (by omega)
  simp [eqGuard, binOp, Sem.run_bind, h]
theorem rd_shl {a c : Nat} {A C r : Int} (ho : o.op = .binOp .shl xt x y yt) (hx : evV t x = some (.int k A)) (hy : evV t y = some (.int k' C)) (hA : A = (a : Int)) (hC : C = (c : Int)) (hc : c ≤ k.bits) (hr : k.wrap ((a * 2 ^ c : Nat) : Int) = r) : ARd P o t st (.sc (.int k r)) := rd_bin ho hx hy fun w => by
  subst hA hC hr
  have hn : ¬ ((c : Int) < 0) := by omega
  simp only [eqGuard, binOp, Sem.run_bind, Op.shift, if_neg hn, Int.toNat_natCast, Nat.min_eq_left hc]
  simp
theorem rd_quo {a c : Nat} {A C r : Int} (ho : o.op = .binOp .quo xt x y yt) (hx : evV t x = some (.int k A)) (hy : evV t y = some (.int k C)) (hA : A = (a : Int)) (hC : C = (c : Int)) (hc : 0 < c) (hr : k.wrap ((a / c : Nat) : Int) = r) : ARd P o t st (.sc (.int k r)) := rd_bin ho hx hy fun w => by
  subst hA hC hr
  have hn : ¬ ((c : Int) = 0) := by omega
  simp only [eqGuard, binOp, Sem.run_bind, Op.intDiv, if_neg hn]
  simp [Int.tdiv]
theorem rd_rem {a c : Nat} {A C : Int} (ho : o.op = .binOp .rem xt x y yt) (hx : evV t x = some (.int k A)) (hy : evV t y = some (.int k C)) (hA : A = (a : Int)) (hC : C = (c : Int)) (hc : 0 < c) : ARd P o t st (.sc (.int k ((a % c : Nat) : Int))) := rd_bin ho hx hy fun w => by
  subst hA hC
  have hn : ¬ ((c : Int) = 0) := by omega
  simp only [eqGuard, binOp, Sem.run_bind, Op.intDiv, if_neg hn]
  simp [Int.tmod]
theorem rd_not32 {a : Nat} {A : Int} (ho : o.op = .unOp .xor xt x) (hx : evV t x = some (.int .u32 A)) (hA : A = (a : Int)) (ha : a < 4294967296) : ARd P o t st (.sc (.int .u32 ((4294967295 - a : Nat) : Int))) := rd_un ho hx fun w => by
  subst hA
  have h : bits .xor .u32 IntKind.u32.max (a : Int) = ((4294967295 - a : Nat) : Int) := by
    have e : IntKind.u32.max = ((4294967295 : Nat) : Int) := by decide
    rw [e, u32_xor_nat 4294967295 a (by omega) ha, not32_nat a ha]
  have hs : IntKind.u32.signed = false := rfl
  simp only [unary_xor, intBits_xor, hs]
  simp [h]
end
end Go.Proofs.Ytfjnkhanndkpfaa
/- Structs with a table among their fields. No conditions. -/
namespace Go.Proofs.Ytfjnkhanndkpfaa
set_option linter.unusedSimpArgs false
set_option linter.unusedVariables false
open Go.RowKit

/-- Cells of a struct: some, a table, some. -/
def fatC (pre : List AV) (t : Nat → Nat) (ys : List AV) : List AV := pre ++ (tabA t ++ ys)
section
variable {pre ys : List AV} {t : Nat → Nat} {i : Nat} {z : AV}
theorem fat_len : (fatC pre t ys).length = pre.length + 256 + ys.length := by simp only [fatC, List.length_append, tabA_len]; omega
theorem fat_pre (h : pre[i]? = some z) : (fatC pre t ys)[i]? = some z := by
  unfold fatC
  rw [List.getElem?_append_left (List.getElem?_eq_some_iff.1 h).1, h]
theorem fat_post {n : Nat} (i : Nat) (hn : n = pre.length + 256 + i) (h : ys[i]? = some z) : (fatC pre t ys)[n]? = some z := by
  subst hn
  unfold fatC
  rw [List.getElem?_append_right (by omega), List.getElem?_append_right (by rw [tabA_len]; omega), tabA_len]
  rw [show pre.length + 256 + i - pre.length - 256 = i by omega, h]
theorem fat_tab {n : Nat} (hn : n = pre.length) : ((fatC pre t ys).drop n).take 256 = tabA t := by
  subst hn
  unfold fatC
  rw [List.drop_left, List.take_append_of_le_length (by rw [tabA_len]; omega), List.take_of_length_le (by rw [tabA_len]; omega)]
theorem fat_set {n : Nat} (i : Nat) (hn : n = pre.length + 256 + i) (z : AV) : (fatC pre t ys).set n z = fatC pre t (ys.set i z) := by
  subst hn
  unfold fatC
  rw [List.set_append_right _ _ (by omega), List.set_append_right _ _ (by rw [tabA_len]; omega), tabA_len]
  rw [show pre.length + 256 + i - pre.length - 256 = i by omega]
theorem fat_ren {ks : List Nat} : (fatC pre t ys).map (ren0 ks) = fatC (pre.map (ren0 ks)) t (ys.map (ren0 ks)) := by
  have : (tabA t).map (ren0 ks) = tabA t := by unfold tabA; rw [List.map_map]; rfl
  simp only [fatC, List.map_append, this]
theorem fat_all {os : List TK} : (fatC pre t ys).all (okC os) = (pre.all (okC os) && ys.all (okC os)) := by
  have : (tabA t).all (okC os) = true := by
    rw [List.all_eq_true]
    intro x hx
    unfold tabA at hx
    obtain ⟨v, _, rfl⟩ := List.mem_map.1 hx
    rfl
  simp only [fatC, List.all_append, this, Bool.true_and]
end
section
variable {P : Program} {o : Oper} {t : List AV} {st : List TK} {x y : Operand} {K : AV → List TK → Prop} {f : Nat → Nat} {pre ys : List AV} {ty bt : TypeId} {k g off : Nat} {z : AV}
theorem rd_fat_tab (ho : o.op = .load ty x) (hT : agN P ty = some (some 256)) (hx : evA t x = .bx k g off) (hk : st[k]? = some ⟨g, .box bt (fatC pre f ys)⟩) (hn : off = pre.length) : ARd P o t st (.sc (tabV f)) := rd_tab ho hT hx hk (by rw [fat_len]; omega) (fat_tab hn)
theorem op_fatstore (i : Nat) {z' : AV} (ho : o.op = .store ty x y) (hx : evA t x = .bx k g off) (hk : st[k]? = some ⟨g, .box bt (fatC pre f ys)⟩) (hn : off = pre.length + 256 + i) (hi : i < ys.length) (hy : evA t y = z) (hz : z.cells? = some [z']) (hl : liveA st z = true) (hT : szT P ty = some 1) (h : K (.sc undef) (st.set k ⟨g, .box bt (fatC pre f (ys.set i z'))⟩)) : AOp P o t st K :=
  op_store ho hx hk hy hz hl hT (by rw [fat_len]; simp; omega) (by simp only [splA]; rw [fat_set i hn]; exact h)
/-- Parts laid around a table. -/
theorem fill_app (place : Nat → Option (Nat × Nat)) : ∀ (ps qs : List (Nat × List AV)) (c d : List AV), fillA place c ps = some d → fillA place c (ps ++ qs) = fillA place d qs
  | [], _, _, _, h => by simp [fillA] at h; subst h; rfl
  | (i, zs) :: ps, qs, c, d, h => by
    simp only [fillA, List.cons_append] at h ⊢
    cases hp : place i with
    | none => rw [hp] at h; cases h
    | some q =>
      obtain ⟨off, size⟩ := q
      rw [hp] at h
      simp only [] at h ⊢
      split at h
      · cases h
      · rename_i hc; rw [if_neg hc]; exact fill_app place ps qs _ _ h
theorem spl_fat (pre : List AV) (ys : List AV) : ∀ (zs cs : List AV) (n : Nat), n + zs.length ≤ cs.length → splA cs n zs = cs.take n ++ (zs ++ cs.drop (n + zs.length))
  | [], cs, n, _ => by simp [splA]
  | z :: zs, cs, n, h => by
    simp at h
    rw [splA, spl_fat pre ys zs _ _ (by simp; omega)]
    rw [List.take_succ_eq_append_getElem (by simp; omega), List.take_set, List.set_eq_of_length_le (by simp; omega), List.getElem_set_self, List.drop_set_of_lt (by omega)]
    simp [Nat.add_assoc, Nat.add_comm 1]
theorem fat_spl {g : Nat → Nat} {n : Nat} (hn : n = pre.length) : splA (fatC pre g ys) n (tabA f) = fatC pre f ys := by
  subst hn
  rw [spl_fat [] [] _ _ _ (by rw [tabA_len, fat_len]; omega), tabA_len]
  unfold fatC
  have e : (pre ++ (tabA g ++ ys)).drop (pre.length + 256) = ys := by
    rw [← List.drop_drop, List.drop_left]
    have := List.drop_left (l₁ := tabA g) (l₂ := ys)
    rwa [tabA_len] at this
  rw [List.take_left, e]
end
section
variable {P : Program} {o : Oper} {t : List AV} {st : List TK} {ops : Array Oper} {l : List Oper} {fuel : Nat} {listed : Array Bool}
theorem calloF {xs : Array Operand} {Ts : Array TypeId} {K : AV → List TK → Prop} {f : FuncId} {ys : List AV} {os : List TK} {R : AV → List TK → Prop} (hC : ACo P f ys os R) (ks : List Nat) (h : ∀ y os', R y os' → K (ren2 ks y) (putT ks st ks os')) (ho : o.op = .call { callee := .value (.func f), args := xs, argTypes := Ts } := by rfl) (hok : callOk P f = true := by kernel_rfl) (hnd : ks.Nodup := by decide) (hsub : subT st ks (os.map (renT ks)) := by simp only [fat_ren, fat_all, List.map_cons, List.map_nil, renT, renC_owM, renC_box, renC_own, renC_nown, renC_obj, renC_off, ren0, List.getD_cons_zero, List.getD_cons_succ]; repeat (first | exact trivial | refine ⟨rfl, ?_⟩)) (hargs : xs.toList.map (fun x => nzA (evA t x)) = ys.map (ren1 ks) := by rfl) (hoa : ys.all (ok1 os) = true := by simp only [fat_ren, fat_all, cleanS, cle_owM, cle_own, cle_nown, cle_obj, cle_off, cle_box, okC, liveA, List.take_succ_cons, List.take_zero, List.all_cons, List.all_nil, List.getElem?_cons_zero, List.getElem?_cons_succ, isO_owM, isO_own, isO_nown, TC.isB, beq_self_eq_true, Bool.and_self, Bool.and_true, ok1, ok2, List.map_cons, List.map_nil]) (hcl : cleanS os = true := by simp only [fat_ren, fat_all, cleanS, cle_owM, cle_own, cle_nown, cle_obj, cle_off, cle_box, okC, liveA, List.take_succ_cons, List.take_zero, List.all_cons, List.all_nil, List.getElem?_cons_zero, List.getElem?_cons_succ, isO_owM, isO_own, isO_nown, TC.isB, beq_self_eq_true, Bool.and_self, Bool.and_true, ok1, ok2, List.map_cons, List.map_nil]) : AOp P o t st K := op_callo hC ho hok ks hnd hsub hargs hoa hcl h
theorem centrF {K : AV → List TK → Prop} {f : FuncId} {us ys : List AV} {os : List TK} {R : AV → List TK → Prop} (hC : ACo P f ys os R) (hE : Ent P o t st f us) (ks : List Nat) (h : ∀ y os', R y os' → K (ren2 ks y) (putT ks st ks os')) (hnd : ks.Nodup := by decide) (hsub : subT st ks (os.map (renT ks)) := by simp only [fat_ren, fat_all, List.map_cons, List.map_nil, renT, renC_owM, renC_box, renC_own, renC_nown, renC_obj, renC_off, ren0, List.getD_cons_zero, List.getD_cons_succ]; repeat (first | exact trivial | refine ⟨rfl, ?_⟩)) (hargs : us.map nzA = ys.map (ren1 ks) := by rfl) (hoa : ys.all (ok1 os) = true := by simp only [fat_ren, fat_all, cleanS, cle_owM, cle_own, cle_nown, cle_obj, cle_off, cle_box, okC, liveA, List.take_succ_cons, List.take_zero, List.all_cons, List.all_nil, List.getElem?_cons_zero, List.getElem?_cons_succ, isO_owM, isO_own, isO_nown, TC.isB, beq_self_eq_true, Bool.and_self, Bool.and_true, ok1, ok2, List.map_cons, List.map_nil]) (hcl : cleanS os = true := by simp only [fat_ren, fat_all, cleanS, cle_owM, cle_own, cle_nown, cle_obj, cle_off, cle_box, okC, liveA, List.take_succ_cons, List.take_zero, List.all_cons, List.all_nil, List.getElem?_cons_zero, List.getElem?_cons_succ, isO_owM, isO_own, isO_nown, TC.isB, beq_self_eq_true, Bool.and_self, Bool.and_true, ok1, ok2, List.map_cons, List.map_nil]) : AOp P o t st K := op_enter hC hE ks hnd hsub hargs hoa hcl h
theorem AL.noF {K : List AV → List TK → Prop} {t' : List AV} {st' : List TK} (h : AL P ops K l t' st') (ht : t = t' := by (try simp only [fat_ren, fat_all, putA, evA, List.getD_cons_zero, List.getD_cons_succ, List.set_cons_zero, List.set_cons_succ, List.length_map, KR, splA, List.map_cons, List.map_nil, List.length_append, List.length_cons, List.length_nil, List.drop_zero, csS_len, csS_take, csS_drop, csS_app, byA_len, byA_take, byA_drop, byA_app, ← List.map_take, ← List.map_drop, ← List.map_append, List.take_succ_cons, List.take_zero, List.drop_succ_cons, List.cons_append, List.nil_append, Nat.zero_add, Nat.reduceAdd, Nat.reduceMul, Nat.add_zero, Nat.mul_one, putT, renT, renC_owM, renC_box, renC_own, renC_nown, renC_obj, renC_off, ren2, ren1, ren0, ok1, ok2]); (try rfl)) (hs : st = st' := by (try simp only [fat_ren, fat_all, putA, evA, List.getD_cons_zero, List.getD_cons_succ, List.set_cons_zero, List.set_cons_succ, List.length_map, KR, splA, List.map_cons, List.map_nil, List.length_append, List.length_cons, List.length_nil, List.drop_zero, csS_len, csS_take, csS_drop, csS_app, byA_len, byA_take, byA_drop, byA_app, ← List.map_take, ← List.map_drop, ← List.map_append, List.take_succ_cons, List.take_zero, List.drop_succ_cons, List.cons_append, List.nil_append, Nat.zero_add, Nat.reduceAdd, Nat.reduceMul, Nat.add_zero, Nat.mul_one, putT, renT, renC_owM, renC_box, renC_own, renC_nown, renC_obj, renC_off, ren2, ren1, ren0, ok1, ok2]); (try rfl)) : AL P ops K l t st := by subst ht hs; exact h
theorem ADB.noF {K : List AV → List TK → Prop} {t' : List AV} {st' : List TK} (h : ADB P l K fuel listed t' st') (ht : t = t' := by (try simp only [fat_ren, fat_all, putA, evA, List.getD_cons_zero, List.getD_cons_succ, List.set_cons_zero, List.set_cons_succ, List.length_map, KR, splA, List.map_cons, List.map_nil, List.length_append, List.length_cons, List.length_nil, List.drop_zero, csS_len, csS_take, csS_drop, csS_app, byA_len, byA_take, byA_drop, byA_app, ← List.map_take, ← List.map_drop, ← List.map_append, List.take_succ_cons, List.take_zero, List.drop_succ_cons, List.cons_append, List.nil_append, Nat.zero_add, Nat.reduceAdd, Nat.reduceMul, Nat.add_zero, Nat.mul_one, putT, renT, renC_owM, renC_box, renC_own, renC_nown, renC_obj, renC_off, ren2, ren1, ren0, ok1, ok2]); (try rfl)) (hs : st = st' := by (try simp only [fat_ren, fat_all, putA, evA, List.getD_cons_zero, List.getD_cons_succ, List.set_cons_zero, List.set_cons_succ, List.length_map, KR, splA, List.map_cons, List.map_nil, List.length_append, List.length_cons, List.length_nil, List.drop_zero, csS_len, csS_take, csS_drop, csS_app, byA_len, byA_take, byA_drop, byA_app, ← List.map_take, ← List.map_drop, ← List.map_append, List.take_succ_cons, List.take_zero, List.drop_succ_cons, List.cons_append, List.nil_append, Nat.zero_add, Nat.reduceAdd, Nat.reduceMul, Nat.add_zero, Nat.mul_one, putT, renT, renC_owM, renC_box, renC_own, renC_nown, renC_obj, renC_off, ren2, ren1, ren0, ok1, ok2]); (try rfl)) : ADB P l K fuel listed t st := by subst ht hs; exact h
theorem reso0F {fn : Func} {n : Nat} {R : AV → List TK → Prop} (hr : fn.results = #[]) (h : R (.tu []) (st.take n)) (hn : n ≤ st.length := by exact Nat.le_of_ble_eq_true rfl) (hc : cleanS (st.take n) = true := by simp only [fat_ren, fat_all, cleanS, cle_owM, cle_own, cle_nown, cle_obj, cle_off, cle_box, okC, liveA, List.take_succ_cons, List.take_zero, List.all_cons, List.all_nil, List.getElem?_cons_zero, List.getElem?_cons_succ, isO_owM, isO_own, isO_nown, TC.isB, beq_self_eq_true, Bool.and_self, Bool.and_true, ok1, ok2, List.map_cons, List.map_nil]) : ResO P fn n R t st := reso0 hr hn hc h
theorem reso1F {fn : Func} {n : Nat} {R : AV → List TK → Prop} {r1 : ResultVar} {z1 y1 : AV} (hr : fn.results = #[r1]) (h1 : ResV P t st r1 z1) (hz1 : resO1 n st z1 = some y1) (h : R (y1) (st.take n)) (hn : n ≤ st.length := by exact Nat.le_of_ble_eq_true rfl) (hc : cleanS (st.take n) = true := by simp only [fat_ren, fat_all, cleanS, cle_owM, cle_own, cle_nown, cle_obj, cle_off, cle_box, okC, liveA, List.take_succ_cons, List.take_zero, List.all_cons, List.all_nil, List.getElem?_cons_zero, List.getElem?_cons_succ, isO_owM, isO_own, isO_nown, TC.isB, beq_self_eq_true, Bool.and_self, Bool.and_true, ok1, ok2, List.map_cons, List.map_nil]) (hok : ok2 (st.take n) (y1) = true := by simp only [fat_ren, fat_all, cleanS, cle_owM, cle_own, cle_nown, cle_obj, cle_off, cle_box, okC, liveA, List.take_succ_cons, List.take_zero, List.all_cons, List.all_nil, List.getElem?_cons_zero, List.getElem?_cons_succ, isO_owM, isO_own, isO_nown, TC.isB, beq_self_eq_true, Bool.and_self, Bool.and_true, ok1, ok2, List.map_cons, List.map_nil]) : ResO P fn n R t st := reso1 hr hn hc h1 hz1 hok h
theorem reso2F {fn : Func} {n : Nat} {R : AV → List TK → Prop} {r1 r2 : ResultVar} {z1 y1 z2 y2 : AV} (hr : fn.results = #[r1, r2]) (h1 : ResV P t st r1 z1) (hz1 : resO1 n st z1 = some y1) (h2 : ResV P t st r2 z2) (hz2 : resO1 n st z2 = some y2) (h : R (.tu [y1, y2]) (st.take n)) (hn : n ≤ st.length := by exact Nat.le_of_ble_eq_true rfl) (hc : cleanS (st.take n) = true := by simp only [fat_ren, fat_all, cleanS, cle_owM, cle_own, cle_nown, cle_obj, cle_off, cle_box, okC, liveA, List.take_succ_cons, List.take_zero, List.all_cons, List.all_nil, List.getElem?_cons_zero, List.getElem?_cons_succ, isO_owM, isO_own, isO_nown, TC.isB, beq_self_eq_true, Bool.and_self, Bool.and_true, ok1, ok2, List.map_cons, List.map_nil]) (hok : ok2 (st.take n) (.tu [y1, y2]) = true := by simp only [fat_ren, fat_all, cleanS, cle_owM, cle_own, cle_nown, cle_obj, cle_off, cle_box, okC, liveA, List.take_succ_cons, List.take_zero, List.all_cons, List.all_nil, List.getElem?_cons_zero, List.getElem?_cons_succ, isO_owM, isO_own, isO_nown, TC.isB, beq_self_eq_true, Bool.and_self, Bool.and_true, ok1, ok2, List.map_cons, List.map_nil]) : ResO P fn n R t st := reso2 hr hn hc h1 hz1 h2 hz2 hok h
theorem reso3F {fn : Func} {n : Nat} {R : AV → List TK → Prop} {r1 r2 r3 : ResultVar} {z1 y1 z2 y2 z3 y3 : AV} (hr : fn.results = #[r1, r2, r3]) (h1 : ResV P t st r1 z1) (hz1 : resO1 n st z1 = some y1) (h2 : ResV P t st r2 z2) (hz2 : resO1 n st z2 = some y2) (h3 : ResV P t st r3 z3) (hz3 : resO1 n st z3 = some y3) (h : R (.tu [y1, y2, y3]) (st.take n)) (hn : n ≤ st.length := by exact Nat.le_of_ble_eq_true rfl) (hc : cleanS (st.take n) = true := by simp only [fat_ren, fat_all, cleanS, cle_owM, cle_own, cle_nown, cle_obj, cle_off, cle_box, okC, liveA, List.take_succ_cons, List.take_zero, List.all_cons, List.all_nil, List.getElem?_cons_zero, List.getElem?_cons_succ, isO_owM, isO_own, isO_nown, TC.isB, beq_self_eq_true, Bool.and_self, Bool.and_true, ok1, ok2, List.map_cons, List.map_nil]) (hok : ok2 (st.take n) (.tu [y1, y2, y3]) = true := by simp only [fat_ren, fat_all, cleanS, cle_owM, cle_own, cle_nown, cle_obj, cle_off, cle_box, okC, liveA, List.take_succ_cons, List.take_zero, List.all_cons, List.all_nil, List.getElem?_cons_zero, List.getElem?_cons_succ, isO_owM, isO_own, isO_nown, TC.isB, beq_self_eq_true, Bool.and_self, Bool.and_true, ok1, ok2, List.map_cons, List.map_nil]) : ResO P fn n R t st := reso3 hr hn hc h1 hz1 h2 hz2 h3 hz3 hok h
end
end Go.Proofs.Ytfjnkhanndkpfaa
