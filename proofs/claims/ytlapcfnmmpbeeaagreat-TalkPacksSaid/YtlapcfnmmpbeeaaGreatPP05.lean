/- Texts of the proof of talkPacks_holds, put together by a program: SumP SumQ Tab. -/
import Derived.Laws.BitsAllLaws
import Derived.Test.YtlapcfnmmpbeeaaGreatPP04
set_option linter.unusedSimpArgs false
set_option linter.unusedVariables false
namespace Go.Proofs.YtlapcfnmmpbeeaaGreat
def stepN (t : Nat → Nat) (s b : Nat) : Nat := t (s % 256 ^^^ b) ^^^ (s / 256)
def moreN (t : Nat → Nat) (s : Nat) (l : List UInt8) : Nat := l.foldl (fun s b => stepN t s b.toNat) s
def ofN (t : Nat → Nat) (l : List UInt8) : Nat := 4294967295 - moreN t 4294967295 l
def onN (t : Nat → Nat) (s : Nat) (l : List UInt8) : Nat := 4294967295 - moreN t (4294967295 - s) l
def half (n : Nat) : Nat := if n % 2 = 1 then n / 2 ^^^ 3988292384 else n / 2
def halves : Nat → Nat → Nat
  | 0, n => n
  | k + 1, n => halves k (half n)
def byteN (c : Nat) : Nat := halves 8 c
theorem xor_lt32 {a b : Nat} (ha : a < 4294967296) (hb : b < 4294967296) : a ^^^ b < 4294967296 := Nat.xor_lt_two_pow (n := 32) (by omega) (by omega)
theorem xor_lt8 {a b : Nat} (ha : a < 256) (hb : b < 256) : a ^^^ b < 256 := Nat.xor_lt_two_pow (n := 8) (by omega) (by omega)
theorem stepN_lt {t : Nat → Nat} (ht : ∀ i, i < 256 → t i < 4294967296) {s b : Nat} (hs : s < 4294967296) (hb : b < 256) : stepN t s b < 4294967296 := xor_lt32 (ht _ (xor_lt8 (by omega) hb)) (by omega)
theorem moreN_lt {t : Nat → Nat} (ht : ∀ i, i < 256 → t i < 4294967296) (l : List UInt8) : ∀ {s : Nat}, s < 4294967296 → moreN t s l < 4294967296 := by
  induction l with
  | nil => intro s hs; exact hs
  | cons b l ih => intro s hs; exact ih (stepN_lt ht hs (UInt8.toNat_lt _))
theorem moreN_append (t : Nat → Nat) (s : Nat) (a b : List UInt8) : moreN t s (a ++ b) = moreN t (moreN t s a) b := by simp [moreN]
theorem half_lt {n : Nat} (h : n < 4294967296) : half n < 4294967296 := by
  unfold half; split
  · exact xor_lt32 (by omega) (by omega)
  · omega
theorem halves_lt (k : Nat) : ∀ {n : Nat}, n < 4294967296 → halves k n < 4294967296 := by
  induction k with
  | zero => intro n h; exact h
  | succ k ih => intro n h; exact ih (half_lt h)
theorem halves_succ' (k n : Nat) : halves (k + 1) n = half (halves k n) := by
  induction k generalizing n with
  | zero => rfl
  | succ k ih => rw [halves, ih]; rfl
theorem byteN_lt {n : Nat} (h : n < 256) : byteN n < 4294967296 := halves_lt 8 (by omega)
theorem xor_div2 (a b : Nat) : (a ^^^ b) / 2 = (a / 2) ^^^ (b / 2) := by
  apply Nat.eq_of_testBit_eq; intro i
  simp [Nat.testBit_xor, ← Nat.testBit_succ]
theorem xor_mod2 (a b : Nat) : (a ^^^ b) % 2 = (a + b) % 2 := by
  have h := @Nat.xor_mod_two_eq_one a b
  by_cases x : (a ^^^ b) % 2 = 1
  · have := h.1 x; omega
  · have : ¬ ¬(a % 2 = 1 ↔ b % 2 = 1) := fun y => x (h.2 y)
    omega
theorem half_xor (a b : Nat) : half (a ^^^ b) = half a ^^^ half b := by
  have h := xor_mod2 a b
  have d := xor_div2 a b
  unfold half
  by_cases ha : a % 2 = 1 <;> by_cases hb : b % 2 = 1
  · rw [if_neg (by omega), if_pos ha, if_pos hb, d]
    apply Nat.eq_of_testBit_eq; intro i
    simp only [Nat.testBit_xor]
    cases (a / 2).testBit i <;> cases (b / 2).testBit i <;> cases Nat.testBit 3988292384 i <;> rfl
  · rw [if_pos (by omega), if_pos ha, if_neg hb, d]
    apply Nat.eq_of_testBit_eq; intro i
    simp only [Nat.testBit_xor]
    cases (a / 2).testBit i <;> cases (b / 2).testBit i <;> cases Nat.testBit 3988292384 i <;> rfl
  · rw [if_pos (by omega), if_neg ha, if_pos hb, d]
    apply Nat.eq_of_testBit_eq; intro i
    simp only [Nat.testBit_xor]
    cases (a / 2).testBit i <;> cases (b / 2).testBit i <;> cases Nat.testBit 3988292384 i <;> rfl
  · rw [if_neg (by omega), if_neg ha, if_neg hb, d]
theorem halves_xor (k : Nat) : ∀ a b, halves k (a ^^^ b) = halves k a ^^^ halves k b := by
  induction k with
  | zero => intro a b; rfl
  | succ k ih => intro a b; rw [halves, half_xor, ih]; rfl
theorem half_double (n : Nat) : half (2 * n) = n := by unfold half; rw [if_neg (by omega)]; omega
theorem halves_shift (k : Nat) : ∀ n, halves k (2 ^ k * n) = n := by
  induction k with
  | zero => intro n; simp [halves]
  | succ k ih => intro n; rw [halves, show 2 ^ (k + 1) * n = 2 * (2 ^ k * n) by rw [Nat.pow_succ, Nat.mul_comm (2 ^ k) 2, Nat.mul_assoc], half_double, ih]
theorem halves_add (a b n : Nat) : halves (a + b) n = halves b (halves a n) := by
  induction a generalizing n with
  | zero => rw [Nat.zero_add]; rfl
  | succ a ih => rw [Nat.succ_add, halves, ih]; rfl
theorem split256 (s : Nat) : s = s % 256 ^^^ (256 * (s / 256)) := by
  apply Nat.eq_of_testBit_eq; intro i
  rw [Nat.testBit_xor, show 256 * (s / 256) = 2 ^ 8 * (s / 2 ^ 8) from rfl, show s % 256 = s % 2 ^ 8 from rfl, Nat.testBit_mod_two_pow, Nat.testBit_two_pow_mul, Nat.testBit_div_two_pow]
  by_cases h : i < 8
  · simp [h, show ¬ 8 ≤ i by omega]
  · simp [h, show 8 ≤ i by omega]
theorem stepN_byteN (s c : Nat) : stepN byteN s c = halves 8 (s ^^^ c) := by
  conv => rhs; rw [split256 s, Nat.xor_assoc, Nat.xor_comm (256 * (s / 256)) c, ← Nat.xor_assoc, halves_xor, show 256 * (s / 256) = 2 ^ 8 * (s / 256) from rfl, halves_shift]
  rfl
theorem onN_ofN {t : Nat → Nat} (ht : ∀ i, i < 256 → t i < 4294967296) (a b : List UInt8) : onN t (ofN t a) b = ofN t (a ++ b) := by
  have := moreN_lt ht a (s := 4294967295) (by omega)
  unfold onN ofN
  rw [moreN_append, show 4294967295 - (4294967295 - moreN t 4294967295 a) = moreN t 4294967295 a by omega]
def num : List UInt8 → Nat
  | [] => 0
  | b :: l => b.toNat + 256 * num l
theorem join256 (b n : Nat) (hb : b < 256) : b + 256 * n = b ^^^ (256 * n) := by
  have h := split256 (b + 256 * n)
  rw [show (b + 256 * n) % 256 = b by omega, show (b + 256 * n) / 256 = n by omega] at h
  exact h
theorem halves8_join (x n : Nat) : halves 8 (x ^^^ (256 * n)) = halves 8 x ^^^ n := by
  rw [halves_xor, show 256 * n = 2 ^ 8 * n from rfl, halves_shift]
theorem moreN_num (l : List UInt8) : ∀ s, moreN byteN s l = halves (8 * l.length) (s ^^^ num l) := by
  induction l with
  | nil => intro s; simp [moreN, num, halves]
  | cons b l ih =>
    intro s
    show moreN byteN (stepN byteN s b.toNat) l = _
    rw [ih, stepN_byteN, num, join256 _ _ (UInt8.toNat_lt b), ← Nat.xor_assoc, show 8 * (b :: l).length = 8 + 8 * l.length by rw [List.length_cons]; omega, halves_add, halves8_join]
theorem half_ne {n : Nat} (h : n < 4294967296) (h0 : n ≠ 0) : half n ≠ 0 := by
  unfold half
  split
  · intro e
    have e2 : n / 2 = 3988292384 := by
      have := congrArg (· ^^^ 3988292384) e
      simpa [Nat.xor_assoc] using this
    omega
  · omega
theorem halves_ne (k : Nat) : ∀ {n : Nat}, n < 4294967296 → n ≠ 0 → halves k n ≠ 0 := by
  induction k with
  | zero => intro n _ h; exact h
  | succ k ih => intro n h h0; exact ih (half_lt h) (half_ne h h0)
theorem halves_zero (k : Nat) : halves k 0 = 0 := by
  induction k with
  | zero => rfl
  | succ k ih => rw [halves, show half 0 = 0 from rfl, ih]
theorem tells (s : Nat) (x b : List UInt8) (at_ m : Nat) (hl : x.length = b.length) (hat : at_ ≤ 8 * b.length) (hm : m < 4294967296) (hx : num x = num b ^^^ (2 ^ at_ * m)) :
    moreN byteN s x = moreN byteN s b ↔ m = 0 := by
  rw [moreN_num, moreN_num, hl, hx, ← Nat.xor_assoc, halves_xor, show 8 * b.length = at_ + (8 * b.length - at_) by omega, halves_add _ _ (2 ^ at_ * m), halves_shift]
  constructor
  · intro h
    have h2 : halves (8 * b.length - at_) m = 0 := by
      have := congrArg (halves (at_ + (8 * b.length - at_)) (s ^^^ num b) ^^^ ·) h
      simpa [← Nat.xor_assoc] using this
    apply Decidable.byContradiction
    intro h0; exact halves_ne _ hm h0 h2
  · rintro rfl; rw [halves_zero, Nat.xor_zero]
def tabL (t : Nat → Nat) : List Value := (List.range 256).map fun i => .int .u32 (t i : Nat)
def tabV (t : Nat → Nat) : Value := .agg (tabL t).toArray
def tabA (t : Nat → Nat) : List AV := (tabL t).map .sc
theorem tabA_len (t : Nat → Nat) : (tabA t).length = 256 := by simp [tabA, tabL]
theorem tabA_get (t : Nat → Nat) {i : Nat} (h : i < 256) : (tabA t)[i]? = some (.sc (.int .u32 (t i : Nat))) := by simp [tabA, tabL, h]
theorem tab_one (t : Nat → Nat) : (tabL t).toArray.all (·.oneCell') = true := by
  rw [Array.all_eq_true_iff_forall_mem]
  intro x hx; simp [tabL] at hx; obtain ⟨i, _, rfl⟩ := hx; rfl
theorem tab_cells (t : Nat → Nat) : AV.cells? (.sc (tabV t)) = some (tabA t) := by
  simp only [AV.cells?, tabV]
  rw [if_pos (tab_one t)]
  simp [tabA]
theorem tabA_set {t u : Nat → Nat} {i : Nat} (h : i < 256) (hu : ∀ j, j < 256 → u j = if j = i then u i else t j) : (tabA t).set i (.sc (.int .u32 (u i : Nat))) = tabA u := by
  apply List.ext_getElem?
  intro j; rw [List.getElem?_set]
  rcases Nat.lt_or_ge j 256 with hj | hj
  · rw [tabA_get u hj, tabA_get t hj, hu j hj]
    by_cases e : i = j
    · subst e; simp [tabA_len, hj]
    · rw [if_neg e, if_neg (fun h => e h.symm)]
  · rw [List.getElem?_eq_none (by rw [tabA_len]; omega), List.getElem?_eq_none (by rw [tabA_len]; omega)]
    split
    · rw [if_neg (by rw [tabA_len]; omega)]
    · rfl
section
variable {P : Program} {o : Oper} {t : List AV} {st : List TK} {x y : Operand} {K : AV → List TK → Prop} {f : Nat → Nat}
theorem op_tabbox {ty : TypeId} (k : Nat) {tk : TK} (ho : o.op = .box ty x) (hx : evA t x = .sc (tabV f)) (hk : st[k]? = some tk) (h : K (.bx k (tk.g + 1) 0) (st.set k ⟨tk.g + 1, .box ty (tabA f)⟩)) : AOpB P o t st K := op_box k ho hx (tab_cells f) rfl hk h
theorem Rep.tab {F : Nat → Prop} {ρ : Loc} {w : World} {v : Value} (h : Rep F ρ st w v (.ag (tabA f))) : v = tabV f := by
  refine h.of_val ?_
  have : AV.vals (tabA f) = some (tabL f) := by
    unfold tabA
    generalize tabL f = l
    induction l with
    | nil => rfl
    | cons v l ih => simp only [List.map_cons, AV.vals, ih]
  simp only [AV.val, this, tabV]
theorem rd_tab {ty bt : TypeId} {k g off : Nat} {cs : List AV} (ho : o.op = .load ty x) (hT : agN P ty = some (some 256)) (hx : evA t x = .bx k g off) (hk : st[k]? = some ⟨g, .box bt cs⟩) (hle : off + 256 ≤ cs.length) (hc : (cs.drop off).take 256 = tabA f) : ARd P o t st (.sc (tabV f)) := fun F ρ w0 w a hs hm => by
  obtain ⟨v, h1, h2⟩ := rd_loadN_bx ho hT hx hk hle hc F ρ w0 w a hs hm
  exact ⟨v, h1.tab ▸ .sc _, h2⟩
theorem rd_tab0 {ty bt : TypeId} {k g : Nat} (ho : o.op = .load ty x) (hT : agN P ty = some (some 256)) (hx : evA t x = .bx k g 0) (hk : st[k]? = some ⟨g, .box bt (tabA f)⟩) : ARd P o t st (.sc (tabV f)) := rd_tab ho hT hx hk (by rw [tabA_len]; omega) (by rw [List.drop_zero, List.take_of_length_le (by rw [tabA_len]; omega)])
theorem op_tabstore {ty bt : TypeId} {k g : Nat} {f0 : List AV} (ho : o.op = .store ty x y) (hx : evA t x = .bx k g 0) (hk : st[k]? = some ⟨g, .box bt f0⟩) (hl : f0.length = 256) (hy : evA t y = .sc (tabV f)) (hT : szT P ty = some 256) (h : K (.sc undef) (st.set k ⟨g, .box bt (tabA f)⟩)) : AOp P o t st K := by
  refine op_store ho hx hk hy (tab_cells f) rfl (by rw [tabA_len]; exact hT) (by rw [tabA_len, hl]; omega) ?_
  have e : ∀ (zs cs : List AV) (n : Nat), n + zs.length = cs.length → splA cs n zs = cs.take n ++ zs := by
    intro zs
    induction zs with
    | nil => intro cs n hn; simp at hn; subst hn; simp [splA]
    | cons z zs ih =>
      intro cs n hn; rw [splA, ih _ _ (by simp at hn ⊢; omega)]; simp at hn; rw [List.take_succ_eq_append_getElem (by simp; omega), List.take_set, List.set_eq_of_length_le (by simp; omega), List.getElem_set_self]; simp
  rw [e (tabA f) f0 0 (by rw [tabA_len, hl])]
  simpa using h
end
theorem sz_Table : szT Tryz.prog 51 = some 256 := by kernel_rfl
theorem ze_Table : zeroC Tryz.prog 51 = some (tabL fun _ => 0) := by kernel_rfl
theorem rd_tabzero {o : Oper} {t : List AV} {st : List TK} (ho : o.op = .build 51 #[]) : ARd Tryz.prog o t st (.sc (tabV fun _ => 0)) := fun F ρ w0 w a hs hm => by
  obtain ⟨v, h1, h2⟩ := rd_buildA (qs := []) (cs := tabA fun _ => 0) ho ar_51 ze_Table rfl rfl F ρ w0 w a hs hm
  exact ⟨v, h1.tab ▸ .sc _, h2⟩
theorem op_taballoc {K : AV → List TK → Prop} {o : Oper} {t : List AV} {st : List TK} (k : Nat) {tk : TK} (ho : o.op = .alloc 51) (hk : st[k]? = some tk) (h : K (.bx k (tk.g + 1) 0) (st.set k ⟨tk.g + 1, .box 51 (tabA fun _ => 0)⟩)) : AOpB Tryz.prog o t st K := op_alloc k ho ze_Table hk h
theorem not32_nat (S : Nat) (h : S < 4294967296) : 4294967295 ^^^ S = 4294967295 - S := by
  apply Nat.eq_of_testBit_eq
  intro i; rw [show 4294967295 - S = 2 ^ 32 - (S + 1) by omega, Nat.testBit_two_pow_sub_succ (by omega), Nat.testBit_xor, show 4294967295 = 2 ^ 32 - 1 by omega, Nat.testBit_two_pow_sub_one]
  by_cases hi : i < 32
  · simp [hi]
  · have h2 : S < 2 ^ i := Nat.lt_of_lt_of_le (show S < 2 ^ 32 by omega) (Nat.pow_le_pow_right (by omega) (by omega))
    simp [hi, Nat.testBit_lt_two_pow h2]
theorem wrap_u8 (n : Nat) : IntKind.u8.wrap (n : Int) = ((n % 256 : Nat) : Int) := by rw [show IntKind.u8.wrap (n : Int) = (n : Int) % 256 from rfl]; omega
theorem wrap_u32 (n : Nat) (h : n < 4294967296) : IntKind.u32.wrap (n : Int) = (n : Int) := by rw [show IntKind.u32.wrap (n : Int) = (n : Int) % 4294967296 from rfl]; omega
theorem wrap_i64 (n : Nat) (h : n < 9223372036854775808) : IntKind.i64.wrap (n : Int) = (n : Int) := IntWalk.i64_in _ (by omega)
section
variable {P : Program} {o : Oper} {t : List AV} {st : List TK} {x y : Operand} {xt yt : TypeId} {k k' : IntKind}
theorem rd_xor {a b r : Int} (ho : o.op = .binOp .xor xt x y yt) (hx : evV t x = some (.int k a)) (hy : evV t y = some (.int k b)) (hr : bits .xor k a b = r) : ARd P o t st (.sc (.int k r)) := rd_bin ho hx hy fun w => by simp [eqGuard, binOp, intBits_xor, Sem.run_bind, hr]
theorem rd_or {a b r : Int} (ho : o.op = .binOp .or xt x y yt) (hx : evV t x = some (.int k a)) (hy : evV t y = some (.int k b)) (hr : bits .or k a b = r) : ARd P o t st (.sc (.int k r)) := rd_bin ho hx hy fun w => by simp [eqGuard, binOp, intBits_or, Sem.run_bind, hr]
theorem rd_shr {a c r : Nat} {A C : Int} (ho : o.op = .binOp .shr xt x y yt) (hx : evV t x = some (.int k A)) (hy : evV t y = some (.int k' C)) (hA : A = (a : Int)) (hC : C = (c : Int)) (hc : c ≤ k.bits) (hr : a / 2 ^ c = r) : ARd P o t st (.sc (.int k (r : Int))) := rd_bin ho hx hy fun w => by
  subst hA hC hr
  have h : Op.shift .shr k (a : Int) k' (c : Int) = pure (.int k ((a : Int) / 2 ^ (c : Int).toNat)) := shift_shr k k' (a : Int) (c : Int) (by omega) (by omega)
  simp [eqGuard, binOp, Sem.run_bind, h]
theorem rd_shl {a c : Nat} {A C r : Int} (ho : o.op = .binOp .shl xt x y yt) (hx : evV t x = some (.int k A)) (hy : evV t y = some (.int k' C)) (hA : A = (a : Int)) (hC : C = (c : Int)) (hc : c ≤ k.bits) (hr : k.wrap ((a * 2 ^ c : Nat) : Int) = r) : ARd P o t st (.sc (.int k r)) := rd_bin ho hx hy fun w => by
  subst hA hC hr
  have hn : ¬ ((c : Int) < 0) := by omega
  simp only [eqGuard, binOp, Sem.run_bind, Op.shift, if_neg hn, Int.toNat_natCast, Nat.min_eq_left hc]
  simp
theorem rd_quo {a c : Nat} {A C r : Int} (ho : o.op = .binOp .quo xt x y yt) (hx : evV t x = some (.int k A)) (hy : evV t y = some (.int k C)) (hA : A = (a : Int)) (hC : C = (c : Int)) (hc : 0 < c) (hr : k.wrap ((a / c : Nat) : Int) = r) : ARd P o t st (.sc (.int k r)) := rd_bin ho hx hy fun w => by
  subst hA hC hr
  have hn : ¬ ((c : Int) = 0) := by omega
  simp only [eqGuard, binOp, Sem.run_bind, Op.intDiv, if_neg hn]
  simp [Int.tdiv]
theorem rd_rem {a c : Nat} {A C : Int} (ho : o.op = .binOp .rem xt x y yt) (hx : evV t x = some (.int k A)) (hy : evV t y = some (.int k C)) (hA : A = (a : Int)) (hC : C = (c : Int)) (hc : 0 < c) : ARd P o t st (.sc (.int k ((a % c : Nat) : Int))) := rd_bin ho hx hy fun w => by
  subst hA hC
  have hn : ¬ ((c : Int) = 0) := by omega
  simp only [eqGuard, binOp, Sem.run_bind, Op.intDiv, if_neg hn]
  simp [Int.tmod]
theorem rd_not32 {a : Nat} {A : Int} (ho : o.op = .unOp .xor xt x) (hx : evV t x = some (.int .u32 A)) (hA : A = (a : Int)) (ha : a < 4294967296) : ARd P o t st (.sc (.int .u32 ((4294967295 - a : Nat) : Int))) := rd_un ho hx fun w => by
  subst hA
  have h : bits .xor .u32 IntKind.u32.max (a : Int) = ((4294967295 - a : Nat) : Int) := by
    have e : IntKind.u32.max = ((4294967295 : Nat) : Int) := by decide
    rw [e, u32_xor_nat 4294967295 a (by omega) ha, not32_nat a ha]
  have hs : IntKind.u32.signed = false := rfl
  simp only [unary_xor, intBits_xor, hs]
  simp [h]
end
section
variable {pre ys : List AV} {t : Nat → Nat} {i : Nat} {z : AV}
end
section
variable {P : Program} {o : Oper} {t : List AV} {st : List TK} {x y : Operand} {K : AV → List TK → Prop} {f : Nat → Nat} {pre ys : List AV} {ty bt : TypeId} {k g off : Nat} {z : AV}
end
section
variable {P : Program} {o : Oper} {t : List AV} {st : List TK} {ops : Array Oper} {l : List Oper} {fuel : Nat} {listed : Array Bool}
end
end Go.Proofs.YtlapcfnmmpbeeaaGreat
