/- A part of a proof. -/
import Derived.Test.YtlapcfnmmpbeeaaGreatPO19
set_option linter.unusedSimpArgs false
set_option linter.unusedVariables false
namespace Go.Proofs.YtlapcfnmmpbeeaaGreat
set_option maxRecDepth 100000
open Go.RowKit
structure PairD where
  from_ : jAU
  tQ : jAU
deriving DecidableEq
def PairD.cs (p : PairD) : List AV := [AS p.from_, AS p.tQ]
structure LensD where
  kind : Int
  at_ : RefD
  name : jAU
  other : jAU
  factor : Int
  field : FldD
  forth : List PairD
  back : List PairD
deriving DecidableEq
def LensD.cs (x : LensD) : List AV := [AI x.kind, AI x.at_.scope, AS x.at_.group, AS x.at_.name, AS x.name, AS x.other, AI x.factor, AI x.field.at_.scope, AS x.field.at_.group, AS x.field.at_.name, AI x.field.kind, AS x.field.dflt, .sl (csS x.field.cases), AI x.field.worth, .sl (x.forth.map PairD.cs), .sl (x.back.map PairD.cs)]
abbrev LensD.av (x : LensD) : AV := .ag x.cs
theorem ne_Pair (x y : Operand) (a1 a2 b1 b2 : jAU) (w : World) : (eqGuard .neq 46 x y (.agg #[sv a1, sv a2]) (.agg #[sv b1, sv b2]) >>= fun _ => binOp .neq 46 (.agg #[sv a1, sv a2]) (.agg #[sv b1, sv b2])).run Tryz.prog w = .ok (.bool (!decide (PairD.mk a1 a2 = PairD.mk b1 b2))) w := by
  go_simp
  by_cases h1 : a1 = b1 <;> by_cases h2 : a2 = b2 <;> simp [h1, h2]
section
variable {o : Oper} {t : List AV} {st : List TK} {x y : Operand} {yt : TypeId} {a1 a2 b1 b2 : jAU}
theorem jG9 (ho : o.op = .binOp .neq 46 x y yt) (hx : evV t x = some (.agg #[sv a1, sv a2])) (hy : evV t y = some (.agg #[sv b1, sv b2])) : ARd Tryz.prog o t st (AB (!decide (PairD.mk a1 a2 = PairD.mk b1 b2))) := jC6 ho hx hy (ne_Pair x y a1 a2 b1 b2)
end
theorem jKZ (l m : List PairD) : AC Tryz.prog 133 [.sl (l.map PairD.cs), .sl (m.map PairD.cs)] (fun x => x = .s (AB (decide (l = m)))) := by
  refine AC.of' 24 0 Tryz.func133 rfl ?_; change AW _ _ _ _ []; refine AW.g (AL.ra ?_); refine AL.nil (AW.seq (AW.g (AL.len (x := .tmp 0) rfl (fun hlen => ?_)))); rw [List.length_map] at hlen; unfold maxLen at hlen; refine AL.rm ?_; refine AL.r (lN jCu) ?_; refine AL.rm ?_; refine AL.r (lN jCu) ?_; refine AL.r qb ?_; refine AL.nil (AW.cd rfl (fun h10 => ?_) (fun h10 => ?_))
  ·refine AW.g (AL.ra ?_); refine AL.nil (AW.ret (r1t ?_)); rw [decide_eq_false (fun e => by subst e; simp at h10)]
  refine AW.skip (AW.seq (AW.g (AL.rm ?_))); refine AL.r (lN jCu) ?_; refine AL.rm ?_; refine AL.nil (AW.block (AW.loopM (ι := Nat) [4, 5, 14, 15, 16, 17, 18, 19, 20, 21, 22, 23, 24, 25] (fun k => [(13, AI (k : Int))]) [] (fun k => []) (fun k => k ≤ l.length ∧ l.take k = m.take k) (fun k => l.length - k) 0 (⟨by omega, rfl⟩) wk sk ?_)); rintro k gs hJ; refine AW.nm ?_; obtain ⟨hk, hok⟩ := hJ; refine AW.g (AL.r qb ?_); refine AL.nil (AW.seq (AW.cd rfl (fun h14 => ?_) (fun h14 => ?_)))
  ·refine AW.skip (AW.seq (AW.block (AW.g (AL.rm ?_)))); refine AL.ra ?_; refine AL.nil (AW.seq (AW.draw (by kernel_rfl) ?_)); refine AD.r 0 rfl (jAa rfl rfl) rfl ?_; refine AD.r 1 rfl (jAa rfl rfl) rfl ?_; refine AD.r 2 rfl (jAc rfl jCu rfl rfl rfl (jAy (by omega)) rfl) rfl ?_; refine AD.r 3 rfl (jAv rfl jJW rfl (Nat.le_of_ble_eq_true rfl) rfl) rfl ?_; refine AD.r 4 rfl (jAa rfl rfl) rfl ?_; refine AD.r 5 rfl (jAa rfl rfl) rfl ?_; refine AD.r 6 rfl (jAc rfl jCu rfl rfl rfl (jAy (by omega)) rfl) rfl ?_; refine AD.r 7 rfl (jAv rfl jJW rfl (Nat.le_of_ble_eq_true rfl) rfl) rfl ?_; refine AD.r 8 rfl (jG9 rfl rfl rfl) rfl ?_; refine AD.done (by kernel_rfl) ?_; change AW _ _ _ _ _; refine AW.cd rfl (fun h24 => ?_) (fun h24 => ?_)
   ·refine AW.g (AL.ra ?_); refine AL.nil (AW.ret (r1t ?_)); rw [decide_eq_false (fun e => by subst e; exact h24 rfl)]
   refine AW.skip ?_; change AW _ _ _ _ _; refine AW.region ?_; refine AL.r qA ?_; refine AL.rm ?_; refine AL.nil ?_; refine ⟨k + 1, ?_, by first | omega | (simp only []; omega), ?_, ?_⟩
   ·exact ⟨by omega, jBN (by omega) (by omega) hok h24⟩
   ·exact wk
   exact sk
  refine AW.exit ?_; change AW _ _ _ _ _; refine AW.g (AL.ra ?_); refine AL.nil (AW.ret (r1t ?_)); rw [decide_eq_true (by rw [List.take_of_length_le (by omega), List.take_of_length_le (by omega)] at hok; exact hok)]
theorem jIs (l m : List PairD) : AC Tryz.prog 159 [.sl (l.map PairD.cs), .sl (m.map PairD.cs)] (fun x => x = .s (AB (decide (l = m)))) := by
  refine AC.of' 24 0 Tryz.func159 rfl ?_; change AW _ _ _ _ []; refine AW.g (AL.ra ?_); refine AL.nil (AW.seq (AW.g (AL.len (x := .tmp 0) rfl (fun hlen => ?_)))); rw [List.length_map] at hlen; unfold maxLen at hlen; refine AL.rm ?_; refine AL.r (lN jCu) ?_; refine AL.rm ?_; refine AL.r (lN jCu) ?_; refine AL.r qb ?_; refine AL.nil (AW.cd rfl (fun h10 => ?_) (fun h10 => ?_))
  ·refine AW.g (AL.ra ?_); refine AL.nil (AW.ret (r1t ?_)); rw [decide_eq_false (fun e => by subst e; simp at h10)]
  refine AW.skip (AW.seq (AW.g (AL.ra ?_))); refine AL.nil (AW.block (AW.loopM (ι := Nat) [4, 11, 12, 13, 14, 15, 16, 17, 18, 19, 20, 21, 22, 23, 24, 25] (fun k => [(5, AI (k : Int))]) [] (fun k => []) (fun k => k ≤ l.length ∧ l.take k = m.take k) (fun k => l.length - k) 0 (⟨by omega, rfl⟩) wk sk ?_)); rintro k gs hJ; refine AW.nm ?_; obtain ⟨hk, hok⟩ := hJ; refine AW.seq (AW.g ?_); (iterate 2 refine AL.rm ?_); refine AL.r (lN jCu) ?_; refine AL.r qb ?_; refine AL.nil (AW.cd rfl (fun h14 => ?_) (fun h14 => ?_))
  ·refine AW.skip (AW.seq (AW.block (AW.seq (AW.draw (by kernel_rfl) ?_)))); refine AD.r 0 rfl (jAa rfl rfl) rfl ?_; refine AD.r 1 rfl (jAa rfl rfl) rfl ?_; refine AD.r 2 rfl (jAc rfl jCu rfl rfl rfl (jAy (by omega)) rfl) rfl ?_; refine AD.r 3 rfl (jAv rfl jJW rfl (Nat.le_of_ble_eq_true rfl) rfl) rfl ?_; refine AD.r 4 rfl (jAa rfl rfl) rfl ?_; refine AD.r 5 rfl (jAa rfl rfl) rfl ?_; refine AD.r 6 rfl (jAc rfl jCu rfl rfl rfl (jAy (by omega)) rfl) rfl ?_; refine AD.r 7 rfl (jAv rfl jJW rfl (Nat.le_of_ble_eq_true rfl) rfl) rfl ?_; refine AD.r 8 rfl (jG9 rfl rfl rfl) rfl ?_; refine AD.done (by kernel_rfl) ?_; change AW _ _ _ _ _; refine AW.cd rfl (fun h25 => ?_) (fun h25 => ?_)
   ·refine AW.g (AL.ra ?_); refine AL.nil (AW.ret (r1t ?_)); rw [decide_eq_false (fun e => by subst e; exact h25 rfl)]
   refine AW.skip ?_; change AW _ _ _ _ _; refine AW.region ?_; refine AL.rm ?_; refine AL.r qA ?_; refine AL.ra ?_; refine AL.nil ?_; refine ⟨k + 1, ?_, by first | omega | (simp only []; omega), ?_, ?_⟩
   ·exact ⟨by omega, jBN (by omega) (by omega) hok h25⟩
   ·exact wk
   exact sk
  refine AW.exit ?_; change AW _ _ _ _ _; refine AW.g (AL.ra ?_); refine AL.nil (AW.ret (r1t ?_)); rw [decide_eq_true (by rw [List.take_of_length_le (by omega), List.take_of_length_le (by omega)] at hok; exact hok)]
theorem jJ1 (n : Int) : AC Tryz.prog 125 [AI n] (fun x => x = .s (AB (decide (2 ≤ n) && decide (n ≤ 1000)))) := by
  refine AC.of' 8 0 Tryz.func125 rfl ?_; change AW _ _ _ _ []; refine AW.g (AL.ra ?_); refine AL.nil (AW.g (AL.rm ?_)); refine AL.r qb ?_; refine AL.rm ?_; refine AL.fk (d := 5) rfl (fun h5 => ?_) (fun h5 => ?_)
  ·refine AL.n ?_; refine AL.ro (jAa rfl rfl) ?_; refine AL.ro qb ?_; refine AL.r qt ?_; refine AL.ra ?_; refine AL.nil (AW.ret (r1t ?_))
   first | (simp_all; done) | (simp_all; omega)
  refine AL.n ?_; (iterate 2 refine AL.rf ?_); refine AL.r qf ?_; refine AL.ra ?_; refine AL.nil (AW.ret (r1t ?_))
  first | (simp_all; done) | (simp_all; omega)
def jD8 (t : List PairD) (s : jAU) : jAU × Bool := match t.find? (fun p => decide (p.from_ = s)) with | some p => (p.tQ, true) | none => ([], false)
theorem jHv {t : List PairD} {s : jAU} {k : Nat} (hk : k < t.length) (hb : ∀ i (hi : i < t.length), i < k → decide (t[i].from_ = s) = false) (h : t[k].from_ = s) : jD8 t s = (t[k].tQ, true) := by
  have : t.find? (fun p => decide (p.from_ = s)) = some t[k] := List.find?_eq_some_iff_getElem.2 ⟨by simpa using h, k, hk, rfl, fun j hj => by simpa using hb j (by omega) hj⟩
  unfold jD8; rw [this]
theorem jHb {t : List PairD} {s : jAU} (hb : ∀ i (hi : i < t.length), decide (t[i].from_ = s) = false) : jD8 t s = ([], false) := by
  have : t.find? (fun p => decide (p.from_ = s)) = none := List.find?_eq_none.2 fun x hx => by
    obtain ⟨i, hi, rfl⟩ := List.mem_iff_getElem.1 hx
    simpa using hb i hi
  unfold jD8; rw [this]
theorem jMb (t : List PairD) (s : jAU) : AC Tryz.prog 154 [.sl (t.map PairD.cs), AS s] (fun x => x = .s (.tu [AS (jD8 t s).1, AB (jD8 t s).2])) := by
  refine AC.of' 19 1 Tryz.func154 rfl ?_; change AW _ _ _ _ [TK.mk 0 .off]; refine AW.g ?_; (iterate 2 refine AL.ra ?_); refine AL.nil (AW.seq (AW.g (AL.len (x := .tmp 0) rfl (fun hlen => ?_)))); rw [List.length_map] at hlen; unfold maxLen at hlen; refine AL.rm ?_; refine AL.r (lN jCu) ?_; refine AL.rm ?_; refine AL.nil (AW.block (AW.loopM (ι := Nat) [4, 5, 7, 11, 12, 13, 14, 15, 16, 17, 18, 19, 20] (fun k => [(10, AI (k : Int))]) [0] (fun k => []) (fun k => k ≤ t.length ∧ ∀ i (hi : i < t.length), i < k → decide (t[i].from_ = s) = false) (fun k => t.length - k) 0 (⟨by omega, fun i _ hi => absurd hi (by omega)⟩) wk sk ?_)); rintro k gs hJ; refine AW.nm ?_; obtain ⟨hk, hok⟩ := hJ; refine AW.g (AL.r qb ?_); refine AL.nil (AW.seq (AW.cd rfl (fun h11 => ?_) (fun h11 => ?_)))
  ·refine AW.skip (AW.seq (AW.block (AW.g (AL.r (jAc rfl jCu rfl rfl rfl (jAy (by omega)) rfl) ?_)))); refine AL.r (jAv rfl jJW rfl (Nat.le_of_ble_eq_true rfl) rfl) ?_; refine AL.oq (AOpB.op (oA 0 jIV ?_)); refine AL.n ?_; refine AL.oq (oS sz_46 ?_); refine AL.n ?_; refine AL.nil (AW.g (AL.r (qa jFC) ?_)); refine AL.r (ql ag_9) ?_; refine AL.rm ?_; refine AL.r (jBi rfl rfl rfl) ?_; refine AL.nil (AW.cd rfl (fun h17 => ?_) (fun h17 => ?_))
   ·refine AW.g (AL.r (qa jIj) ?_); refine AL.r (ql ag_9) ?_; (iterate 2 refine AL.ra ?_); refine AL.nil (AW.ret (res2 rfl (ResV.tmp rfl) rfl (ResV.tmp rfl) rfl ?_)); rw [jHv (by omega) hok h17]
   refine AW.skip ?_; change AW _ _ _ _ _; refine AW.region ?_; refine AL.r qA ?_; refine AL.rm ?_; refine AL.nil ?_; refine ⟨k + 1, ?_, by first | omega | (simp only []; omega), ?_, ?_⟩
   ·exact ⟨by omega, jC8 (p := fun (y : PairD) => decide (y.from_ = s) = false) (by omega) hok (decide_eq_false h17)⟩
   ·exact wk
   exact sk
  refine AW.exit ?_; change AW _ _ _ _ _; refine AW.g ?_; (iterate 2 refine AL.ra ?_); refine AL.nil (AW.ret (res2 rfl (ResV.tmp rfl) rfl (ResV.tmp rfl) rfl ?_)); rw [jHb (fun i hi => hok i hi (by omega))]
theorem jM8 (t : List PairD) (s : jAU) : AC Tryz.prog 130 [.sl (t.map PairD.cs), AS s] (fun x => x = .s (.tu [AS (jD8 t s).1, AB (jD8 t s).2])) := by
  refine AC.of' 23 0 Tryz.func130 rfl ?_; change AW _ _ _ _ []; refine AW.g ?_; (iterate 2 refine AL.ra ?_); refine AL.nil (AW.seq (AW.g (AL.len (x := .tmp 0) rfl (fun hlen => ?_)))); rw [List.length_map] at hlen; unfold maxLen at hlen; refine AL.ra ?_; refine AL.nil (AW.block (AW.loopM (ι := Nat) [4, 5, 7, 8, 9, 10, 11, 12, 13, 14, 15, 16, 17, 18, 19, 20, 21, 22, 23, 24] (fun k => [(6, AI (k : Int))]) [] (fun k => []) (fun k => k ≤ t.length ∧ ∀ i (hi : i < t.length), i < k → decide (t[i].from_ = s) = false) (fun k => t.length - k) 0 (⟨by omega, fun i _ hi => absurd hi (by omega)⟩) wk sk ?_)); rintro k gs hJ; refine AW.nm ?_; obtain ⟨hk, hok⟩ := hJ; refine AW.seq (AW.g ?_); (iterate 2 refine AL.rm ?_); refine AL.r (lN jCu) ?_; refine AL.r qb ?_; refine AL.nil (AW.cd rfl (fun h10 => ?_) (fun h10 => ?_))
  ·refine AW.skip (AW.seq (AW.block (AW.g ?_))); (iterate 2 refine AL.rm ?_); refine AL.r (jAc rfl jCu rfl rfl rfl (jAy (by omega)) rfl) ?_; refine AL.r (jCQ rfl jFC rfl) ?_; refine AL.r (jAl rfl ag_9 rfl rfl) ?_; refine AL.rm ?_; refine AL.r (jBi rfl rfl rfl) ?_; refine AL.nil (AW.cd rfl (fun h19 => ?_) (fun h19 => ?_))
   ·refine AW.g ?_; (iterate 2 refine AL.rm ?_); refine AL.r (jAc rfl jCu rfl rfl rfl (jAy (by omega)) rfl) ?_; refine AL.r (jCQ rfl jIj rfl) ?_; refine AL.r (jAl rfl ag_9 rfl rfl) ?_; (iterate 2 refine AL.ra ?_); refine AL.nil (AW.ret (res2 rfl (ResV.tmp rfl) rfl (ResV.tmp rfl) rfl ?_)); rw [jHv (by omega) hok h19]
   refine AW.skip ?_; change AW _ _ _ _ _; refine AW.region ?_; refine AL.rm ?_; refine AL.r qA ?_; refine AL.ra ?_; refine AL.nil ?_; refine ⟨k + 1, ?_, by first | omega | (simp only []; omega), ?_, ?_⟩
   ·exact ⟨by omega, jC8 (p := fun (y : PairD) => decide (y.from_ = s) = false) (by omega) hok (decide_eq_false h19)⟩
   ·exact wk
   exact sk
  refine AW.exit ?_; change AW _ _ _ _ _; refine AW.g ?_; (iterate 2 refine AL.ra ?_); refine AL.nil (AW.ret (res2 rfl (ResV.tmp rfl) rfl (ResV.tmp rfl) rfl ?_)); rw [jHb (fun i hi => hok i hi (by omega))]
theorem jMR (t : List PairD) (ht : t.length ≤ 1000000) : AC Tryz.prog 157 [.sl (t.map PairD.cs)] (fun x => x = .o 9 1 (csS (t.map PairD.from_))) := by
  refine AC.of' 20 3 Tryz.func157 rfl ?_; change AW _ _ _ _ [TK.mk 0 .off, TK.mk 0 .off, TK.mk 0 .off]; refine AW.g (AL.ra ?_); refine AL.nil (AW.g (AL.oq (AOpB.op (jFi 0 rfl jGZ ze_9 rfl rfl rfl ?_)))); refine AL.n ?_; refine AL.ra ?_; refine AL.nil (AW.seq (AW.g (AL.ra ?_))); refine AL.nil (AW.block (AW.loopM (ι := Nat × Nat) [6, 7, 8, 9, 10, 11, 12, 13, 14, 15, 16, 17, 18, 19] (fun ⟨k, g⟩ => [(4, AI (k : Int)), (3, .ow 0 g)]) [1, 2] (fun ⟨k, g⟩ => [(0, ⟨g, .own 9 1 ((t.take k).map fun p => [AS p.from_])⟩)]) (fun ⟨k, g⟩ => k ≤ t.length) (fun ⟨k, g⟩ => t.length - k) ⟨0, 1⟩ (Nat.zero_le _) wk sk ?_)); rintro ⟨k, g⟩ gs hJ; refine AW.nm ?_; refine AW.seq (AW.g ?_); (iterate 2 refine AL.rm ?_); refine AL.r (lN jCu) ?_; refine AL.r qb ?_; refine AL.nil (AW.cd rfl (fun h9 => ?_) (fun h9 => ?_))
  ·refine AW.skip ?_; change AW _ _ _ _ _; refine AW.seq ?_; refine AW.block ?_; refine AW.region ?_; (iterate 3 refine AL.rm ?_); refine AL.r (jAc rfl jCu rfl rfl rfl (jAy (by omega)) rfl) ?_; refine AL.r (jCQ rfl jFC rfl) ?_; refine AL.r (jAl rfl ag_9 rfl rfl) ?_; refine AL.oq (AOpB.op (jCa rfl jGZ ze_9 rfl rfl ?_)); refine AL.n ?_; refine AL.oq (jAz rfl jGZ rfl rfl (jBQ rfl) (by first | omega | (simp; omega) | simp) (by first | omega | (simp; omega) | simp) ?_); refine AL.n ?_; refine AL.ra ?_; refine AL.nil ?_; change AW _ _ _ _ _; refine AW.region ?_; refine AL.rm ?_; refine AL.r qA ?_; refine AL.ra ?_; refine AL.nil ?_; refine ⟨⟨k + 1, g + 1⟩, ?_, by first | omega | (simp only []; omega), ?_, ?_⟩
   ·show k + 1 ≤ t.length; omega
   ·exact wk
   simp only [anys, upds, offs, List.set_cons_zero, List.set_cons_succ]; repeat (first | exact Sk.nil _ | refine Sk.same _ ?_ | refine Sk.scr _ (by decide) ?_ | refine Sk.eq _ (by exact congrArg (fun xs => TK.mk (g + 1) (.own 9 1 xs)) (jHV (f := fun p : PairD => [AS p.from_]) (by omega))) ?_)
  refine AW.exit ?_; change AW _ _ _ _ _; refine AW.g (AL.rm ?_); refine AL.ra ?_; refine AL.nil (AW.ret (jDX rfl (ResV.tmp rfl) rfl ?_)); rw [List.take_of_length_le (by omega)]; simp [csS]
end Go.Proofs.YtlapcfnmmpbeeaaGreat
