/- A part of a proof. -/
import Derived.Laws.BitsAllLaws
import Derived.Test.YtlapcfnmmpbeeaaPT07
set_option linter.unusedSimpArgs false
set_option linter.unusedVariables false
namespace Go.Proofs.Ytlapcfnmmpbeeaa
open Go.RowKit
def tabL (t : Nat → Nat) : List Value := (List.range 256).map fun i => .int .u32 (t i : Nat)
def tabV (t : Nat → Nat) : Value := .agg (tabL t).toArray
def tabA (t : Nat → Nat) : List AV := (tabL t).map .sc
theorem tabA_len (t : Nat → Nat) : (tabA t).length = 256 := by simp [tabA, tabL]
theorem tabA_get (t : Nat → Nat) {i : Nat} (h : i < 256) : (tabA t)[i]? = some (.sc (.int .u32 (t i : Nat))) := by simp [tabA, tabL, h]
theorem tab_one (t : Nat → Nat) : (tabL t).toArray.all (·.oneCell') = true := by
  rw [Array.all_eq_true_iff_forall_mem]
  intro x hx; simp [tabL] at hx; obtain ⟨i, _, rfl⟩ := hx; rfl
theorem tab_cells (t : Nat → Nat) : AV.cells? (.sc (tabV t)) = some (tabA t) := by
  simp only [AV.cells?, tabV]
  rw [if_pos (tab_one t)]
  simp [tabA]
theorem tabA_set {t u : Nat → Nat} {i : Nat} (h : i < 256) (hu : ∀ j, j < 256 → u j = if j = i then u i else t j) : (tabA t).set i (.sc (.int .u32 (u i : Nat))) = tabA u := by
  apply List.ext_getElem?
  intro j; rw [List.getElem?_set]
  rcases Nat.lt_or_ge j 256 with hj | hj
  · rw [tabA_get u hj, tabA_get t hj, hu j hj]
    by_cases e : i = j
    · subst e; simp [tabA_len, hj]
    rw [if_neg e, if_neg (fun h => e h.symm)]
  rw [List.getElem?_eq_none (by rw [tabA_len]; omega), List.getElem?_eq_none (by rw [tabA_len]; omega)]
  split
  · rw [if_neg (by rw [tabA_len]; omega)]
  rfl
section
variable {P : Program} {o : Oper} {t : List AV} {st : List TK} {x y : Operand} {K : AV → List TK → Prop} {f : Nat → Nat}
theorem op_tabbox {ty : TypeId} (k : Nat) {tk : TK} (ho : o.op = .box ty x) (hx : evA t x = .sc (tabV f)) (hk : st[k]? = some tk) (h : K (.bx k (tk.g + 1) 0) (st.set k ⟨tk.g + 1, .box ty (tabA f)⟩)) : AOpB P o t st K := op_box k ho hx (tab_cells f) rfl hk h
theorem Rep.tab {F : Nat → Prop} {ρ : Loc} {w : World} {v : Value} (h : Rep F ρ st w v (.ag (tabA f))) : v = tabV f := by
  refine h.of_val ?_
  have : AV.vals (tabA f) = some (tabL f) := by
    unfold tabA
    generalize tabL f = l
    induction l with
    | nil => rfl
    | cons v l ih => simp only [List.map_cons, AV.vals, ih]
  simp only [AV.val, this, tabV]
theorem rd_tab {ty bt : TypeId} {k g off : Nat} {cs : List AV} (ho : o.op = .load ty x) (hT : agN P ty = some (some 256)) (hx : evA t x = .bx k g off) (hk : st[k]? = some ⟨g, .box bt cs⟩) (hle : off + 256 ≤ cs.length) (hc : (cs.drop off).take 256 = tabA f) : ARd P o t st (.sc (tabV f)) := fun F ρ w0 w a hs hm => by
  obtain ⟨v, h1, h2⟩ := rd_loadN_bx ho hT hx hk hle hc F ρ w0 w a hs hm
  exact ⟨v, h1.tab ▸ .sc _, h2⟩
theorem rd_tab0 {ty bt : TypeId} {k g : Nat} (ho : o.op = .load ty x) (hT : agN P ty = some (some 256)) (hx : evA t x = .bx k g 0) (hk : st[k]? = some ⟨g, .box bt (tabA f)⟩) : ARd P o t st (.sc (tabV f)) := rd_tab ho hT hx hk (by rw [tabA_len]; omega) (by rw [List.drop_zero, List.take_of_length_le (by rw [tabA_len]; omega)])
theorem op_tabstore {ty bt : TypeId} {k g : Nat} {f0 : List AV} (ho : o.op = .store ty x y) (hx : evA t x = .bx k g 0) (hk : st[k]? = some ⟨g, .box bt f0⟩) (hl : f0.length = 256) (hy : evA t y = .sc (tabV f)) (hT : szT P ty = some 256) (h : K (.sc undef) (st.set k ⟨g, .box bt (tabA f)⟩)) : AOp P o t st K := by
  refine op_store ho hx hk hy (tab_cells f) rfl (by rw [tabA_len]; exact hT) (by rw [tabA_len, hl]; omega) ?_
  have e : ∀ (zs cs : List AV) (n : Nat), n + zs.length = cs.length → splA cs n zs = cs.take n ++ zs := by
    intro zs
    induction zs with
    | nil => intro cs n hn; simp at hn; subst hn; simp [splA]
    | cons z zs ih =>
      intro cs n hn; rw [splA, ih _ _ (by simp at hn ⊢; omega)]; simp at hn; rw [List.take_succ_eq_append_getElem (by simp; omega), List.take_set, List.set_eq_of_length_le (by simp; omega), List.getElem_set_self]; simp
  rw [e (tabA f) f0 0 (by rw [tabA_len, hl])]
  simpa using h
end
theorem sz_Table : szT Try.prog 33 = some 256 := by kernel_rfl
theorem ze_Table : zeroC Try.prog 33 = some (tabL fun _ => 0) := by kernel_rfl
theorem rd_tabzero {o : Oper} {t : List AV} {st : List TK} (ho : o.op = .build 33 #[]) : ARd Try.prog o t st (.sc (tabV fun _ => 0)) := fun F ρ w0 w a hs hm => by
  obtain ⟨v, h1, h2⟩ := rd_buildA (qs := []) (cs := tabA fun _ => 0) ho ar_33 ze_Table rfl rfl F ρ w0 w a hs hm
  exact ⟨v, h1.tab ▸ .sc _, h2⟩
theorem op_taballoc {K : AV → List TK → Prop} {o : Oper} {t : List AV} {st : List TK} (k : Nat) {tk : TK} (ho : o.op = .alloc 33) (hk : st[k]? = some tk) (h : K (.bx k (tk.g + 1) 0) (st.set k ⟨tk.g + 1, .box 33 (tabA fun _ => 0)⟩)) : AOpB Try.prog o t st K := op_alloc k ho ze_Table hk h
theorem not32_nat (S : Nat) (h : S < 4294967296) : 4294967295 ^^^ S = 4294967295 - S := by
  apply Nat.eq_of_testBit_eq
  intro i; rw [show 4294967295 - S = 2 ^ 32 - (S + 1) by omega, Nat.testBit_two_pow_sub_succ (by omega), Nat.testBit_xor, show 4294967295 = 2 ^ 32 - 1 by omega, Nat.testBit_two_pow_sub_one]
  by_cases hi : i < 32
  · simp [hi]
  have h2 : S < 2 ^ i := Nat.lt_of_lt_of_le (show S < 2 ^ 32 by omega) (Nat.pow_le_pow_right (by omega) (by omega))
  simp [hi, Nat.testBit_lt_two_pow h2]
theorem wrap_u8 (n : Nat) : IntKind.u8.wrap (n : Int) = ((n % 256 : Nat) : Int) := by rw [show IntKind.u8.wrap (n : Int) = (n : Int) % 256 from rfl]; omega
theorem wrap_u32 (n : Nat) (h : n < 4294967296) : IntKind.u32.wrap (n : Int) = (n : Int) := by rw [show IntKind.u32.wrap (n : Int) = (n : Int) % 4294967296 from rfl]; omega
theorem wrap_u64 (n : Nat) (h : n < 18446744073709551616) : IntKind.u64.wrap (n : Int) = (n : Int) := by rw [show IntKind.u64.wrap (n : Int) = (n : Int) % 18446744073709551616 from rfl]; omega
theorem wrap_i64 (n : Nat) (h : n < 9223372036854775808) : IntKind.i64.wrap (n : Int) = (n : Int) := IntWalk.i64_in _ (by omega)
section
variable {P : Program} {o : Oper} {t : List AV} {st : List TK} {x y : Operand} {xt yt : TypeId} {k k' : IntKind}
theorem rd_xor {a b r : Int} (ho : o.op = .binOp .xor xt x y yt) (hx : evV t x = some (.int k a)) (hy : evV t y = some (.int k b)) (hr : bits .xor k a b = r) : ARd P o t st (.sc (.int k r)) := rd_bin ho hx hy fun w => by simp [eqGuard, binOp, intBits_xor, Sem.run_bind, hr]
theorem rd_or {a b r : Int} (ho : o.op = .binOp .or xt x y yt) (hx : evV t x = some (.int k a)) (hy : evV t y = some (.int k b)) (hr : bits .or k a b = r) : ARd P o t st (.sc (.int k r)) := rd_bin ho hx hy fun w => by simp [eqGuard, binOp, intBits_or, Sem.run_bind, hr]
theorem rd_shr {a c r : Nat} {A C : Int} (ho : o.op = .binOp .shr xt x y yt) (hx : evV t x = some (.int k A)) (hy : evV t y = some (.int k' C)) (hA : A = (a : Int)) (hC : C = (c : Int)) (hc : c ≤ k.bits) (hr : a / 2 ^ c = r) : ARd P o t st (.sc (.int k (r : Int))) := rd_bin ho hx hy fun w => by
  subst hA hC hr
  have h : Op.shift .shr k (a : Int) k' (c : Int) = pure (.int k ((a : Int) / 2 ^ (c : Int).toNat)) := shift_shr k k' (a : Int) (c : Int) (by omega) (by omega)
  simp [eqGuard, binOp, Sem.run_bind, h]
theorem rd_shl {a c : Nat} {A C r : Int} (ho : o.op = .binOp .shl xt x y yt) (hx : evV t x = some (.int k A)) (hy : evV t y = some (.int k' C)) (hA : A = (a : Int)) (hC : C = (c : Int)) (hc : c ≤ k.bits) (hr : k.wrap ((a * 2 ^ c : Nat) : Int) = r) : ARd P o t st (.sc (.int k r)) := rd_bin ho hx hy fun w => by
  subst hA hC hr
  have hn : ¬ ((c : Int) < 0) := by omega
  simp only [eqGuard, binOp, Sem.run_bind, Op.shift, if_neg hn, Int.toNat_natCast, Nat.min_eq_left hc]
  simp
theorem rd_quo {a c : Nat} {A C r : Int} (ho : o.op = .binOp .quo xt x y yt) (hx : evV t x = some (.int k A)) (hy : evV t y = some (.int k C)) (hA : A = (a : Int)) (hC : C = (c : Int)) (hc : 0 < c) (hr : k.wrap ((a / c : Nat) : Int) = r) : ARd P o t st (.sc (.int k r)) := rd_bin ho hx hy fun w => by
  subst hA hC hr
  have hn : ¬ ((c : Int) = 0) := by omega
  simp only [eqGuard, binOp, Sem.run_bind, Op.intDiv, if_neg hn]
  simp [Int.tdiv]
theorem rd_rem {a c : Nat} {A C : Int} (ho : o.op = .binOp .rem xt x y yt) (hx : evV t x = some (.int k A)) (hy : evV t y = some (.int k C)) (hA : A = (a : Int)) (hC : C = (c : Int)) (hc : 0 < c) : ARd P o t st (.sc (.int k ((a % c : Nat) : Int))) := rd_bin ho hx hy fun w => by
  subst hA hC
  have hn : ¬ ((c : Int) = 0) := by omega
  simp only [eqGuard, binOp, Sem.run_bind, Op.intDiv, if_neg hn]
  simp [Int.tmod]
theorem rd_not32 {a : Nat} {A : Int} (ho : o.op = .unOp .xor xt x) (hx : evV t x = some (.int .u32 A)) (hA : A = (a : Int)) (ha : a < 4294967296) : ARd P o t st (.sc (.int .u32 ((4294967295 - a : Nat) : Int))) := rd_un ho hx fun w => by
  subst hA
  have h : bits .xor .u32 IntKind.u32.max (a : Int) = ((4294967295 - a : Nat) : Int) := by
    have e : IntKind.u32.max = ((4294967295 : Nat) : Int) := by decide
    rw [e, u32_xor_nat 4294967295 a (by omega) ha, not32_nat a ha]
  have hs : IntKind.u32.signed = false := rfl
  simp only [unary_xor, intBits_xor, hs]
  simp [h]
end
section
variable {pre ys : List AV} {t : Nat → Nat} {i : Nat} {z : AV}
end
section
variable {P : Program} {o : Oper} {t : List AV} {st : List TK} {x y : Operand} {K : AV → List TK → Prop} {f : Nat → Nat} {pre ys : List AV} {ty bt : TypeId} {k g off : Nat} {z : AV}
end
section
variable {P : Program} {o : Oper} {t : List AV} {st : List TK} {ops : Array Oper} {l : List Oper} {fuel : Nat} {listed : Array Bool}
end
end Go.Proofs.Ytlapcfnmmpbeeaa
