/- A part of a proof. -/
import Derived.Test.YtlapcfnmmpbeeaaPT14
set_option linter.unusedSimpArgs false
set_option linter.unusedVariables false
namespace Go.Proofs.Ytlapcfnmmpbeeaa
set_option maxRecDepth 100000
open Go.RowKit
structure PairD where
  from_ : Bytes
  tQ : Bytes
deriving DecidableEq
def PairD.cs (p : PairD) : List AV := [AS p.from_, AS p.tQ]
structure LensD where
  kind : Int
  at_ : RefD
  name : Bytes
  other : Bytes
  factor : Int
  field : FldD
  forth : List PairD
  back : List PairD
deriving DecidableEq
def LensD.cs (x : LensD) : List AV := [AI x.kind, AI x.at_.scope, AS x.at_.group, AS x.at_.name, AS x.name, AS x.other, AI x.factor, AI x.field.at_.scope, AS x.field.at_.group, AS x.field.at_.name, AI x.field.kind, AS x.field.dflt, .sl (csS x.field.cases), AI x.field.worth, .sl (x.forth.map PairD.cs), .sl (x.back.map PairD.cs)]
abbrev LensD.av (x : LensD) : AV := .ag x.cs
theorem ne_Pair (x y : Operand) (a1 a2 b1 b2 : Bytes) (w : World) : (eqGuard .neq 127 x y (.agg #[sv a1, sv a2]) (.agg #[sv b1, sv b2]) >>= fun _ => binOp .neq 127 (.agg #[sv a1, sv a2]) (.agg #[sv b1, sv b2])).run Try.prog w = .ok (.bool (!decide (PairD.mk a1 a2 = PairD.mk b1 b2))) w := by
  go_simp
  by_cases h1 : a1 = b1 <;> by_cases h2 : a2 = b2 <;> simp [h1, h2]
section
variable {o : Oper} {t : List AV} {st : List TK} {x y : Operand} {yt : TypeId} {a1 a2 b1 b2 : Bytes}
theorem rd_ne_Pair (ho : o.op = .binOp .neq 127 x y yt) (hx : evV t x = some (.agg #[sv a1, sv a2])) (hy : evV t y = some (.agg #[sv b1, sv b2])) : ARd Try.prog o t st (AB (!decide (PairD.mk a1 a2 = PairD.mk b1 b2))) := rd_bin ho hx hy (ne_Pair x y a1 a2 b1 b2)
end
theorem spairs_c (l m : List PairD) : AC Try.prog 91 [.sl (l.map PairD.cs), .sl (m.map PairD.cs)] (fun x => x = .s (AB (decide (l = m)))) := by
  refine AC.of' 24 0 Try.func91 rfl ?_; change AW _ _ _ _ []; refine AW.g (AL.ra ?_); refine AL.nil (AW.seq (AW.g (AL.len (x := .tmp 0) rfl (fun hlen => ?_)))); rw [List.length_map] at hlen; unfold maxLen at hlen; refine AL.rm ?_; refine AL.r (lN el_59) ?_; refine AL.rm ?_; refine AL.r (lN el_59) ?_; refine AL.r qb ?_; refine AL.nil (AW.cd rfl (fun h10 => ?_) (fun h10 => ?_))
  ·refine AW.g (AL.ra ?_); refine AL.nil (AW.ret (r1t ?_)); rw [decide_eq_false (fun e => by subst e; simp at h10)]
  refine AW.skip (AW.seq (AW.g (AL.rm ?_))); refine AL.r (lN el_59) ?_; refine AL.rm ?_; refine AL.nil (AW.block (AW.loopM (ι := Nat) [4, 5, 14, 15, 16, 17, 18, 19, 20, 21, 22, 23, 24, 25] (fun k => [(13, AI (k : Int))]) [] (fun k => []) (fun k => k ≤ l.length ∧ l.take k = m.take k) (fun k => l.length - k) 0 (⟨by omega, rfl⟩) wk sk ?_)); rintro k gs hJ; refine AW.nm ?_; obtain ⟨hk, hok⟩ := hJ; refine AW.g (AL.r qb ?_); refine AL.nil (AW.seq (AW.cd rfl (fun h14 => ?_) (fun h14 => ?_)))
  ·refine AW.skip (AW.seq (AW.block (AW.g (AL.rm ?_)))); refine AL.ra ?_; refine AL.nil (AW.seq (AW.draw (by kernel_rfl) ?_)); refine AD.r 0 rfl (rd_move rfl rfl) rfl ?_; refine AD.r 1 rfl (rd_move rfl rfl) rfl ?_; refine AD.r 2 rfl (rd_iaddr_sl rfl el_59 rfl rfl rfl (get_mapA (by omega)) rfl) rfl ?_; refine AD.r 3 rfl (rd_loadN_ep rfl ag_127 rfl (Nat.le_of_ble_eq_true rfl) rfl) rfl ?_; refine AD.r 4 rfl (rd_move rfl rfl) rfl ?_; refine AD.r 5 rfl (rd_move rfl rfl) rfl ?_; refine AD.r 6 rfl (rd_iaddr_sl rfl el_59 rfl rfl rfl (get_mapA (by omega)) rfl) rfl ?_; refine AD.r 7 rfl (rd_loadN_ep rfl ag_127 rfl (Nat.le_of_ble_eq_true rfl) rfl) rfl ?_; refine AD.r 8 rfl (rd_ne_Pair rfl rfl rfl) rfl ?_; refine AD.done (by kernel_rfl) ?_; change AW _ _ _ _ _; refine AW.cd rfl (fun h24 => ?_) (fun h24 => ?_)
   ·refine AW.g (AL.ra ?_); refine AL.nil (AW.ret (r1t ?_)); rw [decide_eq_false (fun e => by subst e; exact h24 rfl)]
   refine AW.skip ?_; change AW _ _ _ _ _; refine AW.region ?_; refine AL.r qA ?_; refine AL.rm ?_; refine AL.nil ?_; refine ⟨k + 1, ?_, by first | omega | (simp only []; omega), ?_, ?_⟩
   ·exact ⟨by omega, take_eq_next (by omega) (by omega) hok h24⟩
   ·exact wk
   exact sk
  refine AW.exit ?_; change AW _ _ _ _ _; refine AW.g (AL.ra ?_); refine AL.nil (AW.ret (r1t ?_)); rw [decide_eq_true (by rw [List.take_of_length_le (by omega), List.take_of_length_le (by omega)] at hok; exact hok)]
theorem factor_c (n : Int) : AC Try.prog 85 [AI n] (fun x => x = .s (AB (decide (2 ≤ n) && decide (n ≤ 1000)))) := by
  refine AC.of' 8 0 Try.func85 rfl ?_; change AW _ _ _ _ []; refine AW.g (AL.ra ?_); refine AL.nil (AW.g (AL.rm ?_)); refine AL.r qb ?_; refine AL.rm ?_; refine AL.fk (d := 5) rfl (fun h5 => ?_) (fun h5 => ?_)
  ·refine AL.n ?_; refine AL.ro (rd_move rfl rfl) ?_; refine AL.ro qb ?_; refine AL.r qt ?_; refine AL.ra ?_; refine AL.nil (AW.ret (r1t ?_))
   first | (simp_all; done) | (simp_all; omega)
  refine AL.n ?_; (iterate 2 refine AL.rf ?_); refine AL.r qf ?_; refine AL.ra ?_; refine AL.nil (AW.ret (r1t ?_))
  first | (simp_all; done) | (simp_all; omega)
def caseP (t : List PairD) (s : Bytes) : Bytes × Bool := match t.find? (fun p => decide (p.from_ = s)) with | some p => (p.tQ, true) | none => ([], false)
theorem caseP_some {t : List PairD} {s : Bytes} {k : Nat} (hk : k < t.length) (hb : ∀ i (hi : i < t.length), i < k → decide (t[i].from_ = s) = false) (h : t[k].from_ = s) : caseP t s = (t[k].tQ, true) := by
  have : t.find? (fun p => decide (p.from_ = s)) = some t[k] := List.find?_eq_some_iff_getElem.2 ⟨by simpa using h, k, hk, rfl, fun j hj => by simpa using hb j (by omega) hj⟩
  unfold caseP; rw [this]
theorem caseP_none {t : List PairD} {s : Bytes} (hb : ∀ i (hi : i < t.length), decide (t[i].from_ = s) = false) : caseP t s = ([], false) := by
  have : t.find? (fun p => decide (p.from_ = s)) = none := List.find?_eq_none.2 fun x hx => by
    obtain ⟨i, hi, rfl⟩ := List.mem_iff_getElem.1 hx
    simpa using hb i hi
  unfold caseP; rw [this]
theorem case_c (t : List PairD) (s : Bytes) : AC Try.prog 95 [.sl (t.map PairD.cs), AS s] (fun x => x = .s (.tu [AS (caseP t s).1, AB (caseP t s).2])) := by
  refine AC.of' 19 1 Try.func95 rfl ?_; change AW _ _ _ _ [TK.mk 0 .off]; refine AW.g ?_; (iterate 2 refine AL.ra ?_); refine AL.nil (AW.seq (AW.g (AL.len (x := .tmp 0) rfl (fun hlen => ?_)))); rw [List.length_map] at hlen; unfold maxLen at hlen; refine AL.rm ?_; refine AL.r (lN el_59) ?_; refine AL.rm ?_; refine AL.nil (AW.block (AW.loopM (ι := Nat) [4, 5, 7, 11, 12, 13, 14, 15, 16, 17, 18, 19, 20] (fun k => [(10, AI (k : Int))]) [0] (fun k => []) (fun k => k ≤ t.length ∧ ∀ i (hi : i < t.length), i < k → decide (t[i].from_ = s) = false) (fun k => t.length - k) 0 (⟨by omega, fun i _ hi => absurd hi (by omega)⟩) wk sk ?_)); rintro k gs hJ; refine AW.nm ?_; obtain ⟨hk, hok⟩ := hJ; refine AW.g (AL.r qb ?_); refine AL.nil (AW.seq (AW.cd rfl (fun h11 => ?_) (fun h11 => ?_)))
  ·refine AW.skip (AW.seq (AW.block (AW.g (AL.r (rd_iaddr_sl rfl el_59 rfl rfl rfl (get_mapA (by omega)) rfl) ?_)))); refine AL.r (rd_loadN_ep rfl ag_127 rfl (Nat.le_of_ble_eq_true rfl) rfl) ?_; refine AL.oq (AOpB.op (oA 0 ze_127 ?_)); refine AL.n ?_; refine AL.oq (oS sz_127 ?_); refine AL.n ?_; refine AL.nil (AW.g (AL.r (qa fo_127_0) ?_)); refine AL.r (ql ag_9) ?_; refine AL.rm ?_; refine AL.r (rd_seq rfl rfl rfl) ?_; refine AL.nil (AW.cd rfl (fun h17 => ?_) (fun h17 => ?_))
   ·refine AW.g (AL.r (qa fo_127_1) ?_); refine AL.r (ql ag_9) ?_; (iterate 2 refine AL.ra ?_); refine AL.nil (AW.ret (res2 rfl (ResV.tmp rfl) rfl (ResV.tmp rfl) rfl ?_)); rw [caseP_some (by omega) hok h17]
   refine AW.skip ?_; change AW _ _ _ _ _; refine AW.region ?_; refine AL.r qA ?_; refine AL.rm ?_; refine AL.nil ?_; refine ⟨k + 1, ?_, by first | omega | (simp only []; omega), ?_, ?_⟩
   ·exact ⟨by omega, all_nextL (p := fun (y : PairD) => decide (y.from_ = s) = false) (by omega) hok (decide_eq_false h17)⟩
   ·exact wk
   exact sk
  refine AW.exit ?_; change AW _ _ _ _ _; refine AW.g ?_; (iterate 2 refine AL.ra ?_); refine AL.nil (AW.ret (res2 rfl (ResV.tmp rfl) rfl (ResV.tmp rfl) rfl ?_)); rw [caseP_none (fun i hi => hok i hi (by omega))]
def okT (t u : List PairD) (i : Nat) : Bool := match t[i]? with
  | some p => nameB p.from_ && !((t.take i).map PairD.from_).contains p.from_ && (u.map PairD.from_).contains p.tQ
  | none => true
def tabB (t u : List PairD) : Bool := decide (1 ≤ t.length) && decide (t.length ≤ 6) && (List.range t.length).all (okT t u)
theorem okT_at {t u : List PairD} {k : Nat} (h : k < t.length) : okT t u k = (nameB t[k].from_ && !((t.take k).map PairD.from_).contains t[k].from_ && (u.map PairD.from_).contains t[k].tQ) := by simp [okT, h]
theorem tabB_len {t u : List PairD} (h : t.length < 1 ∨ 6 < t.length) : tabB t u = false := by
  unfold tabB
  rcases h with h | h
  · rw [decide_eq_false (by omega)]; rfl
  rw [decide_eq_false (p := t.length ≤ 6) (by omega), Bool.and_false]; rfl
theorem tabB_t {t u : List PairD} (h1 : ¬ t.length < 1) (h2 : ¬ 6 < t.length) (h : ∀ i, i < t.length → okT t u i = true) : tabB t u = true := by
  unfold tabB
  rw [decide_eq_true (by omega), decide_eq_true (by omega), List.all_eq_true.2 fun i hi => h i (List.mem_range.1 hi)]; rfl
theorem tabB_f {t u : List PairD} {k : Nat} (hk : k < t.length) (h : okT t u k = false) : tabB t u = false := by
  unfold tabB
  have : (List.range t.length).all (okT t u) = false := by
    rw [List.all_eq_false]; exact ⟨k, List.mem_range.2 hk, by rw [h]; decide⟩
  rw [this, Bool.and_false]
theorem caseP_ok (t : List PairD) (s : Bytes) : (caseP t s).2 = (t.map PairD.from_).contains s := by
  unfold caseP
  cases h : t.find? (fun p => decide (p.from_ = s)) with
  | none =>
    have := List.find?_eq_none.1 h
    symm
    rw [Bool.eq_false_iff]
    intro hc; rw [List.contains_iff_mem, List.mem_map] at hc; obtain ⟨p, hp, e⟩ := hc; exact this p hp (by simpa using e)
  | some p =>
    have h1 := List.find?_some h
    have h2 := List.mem_of_find?_eq_some h
    symm
    rw [List.contains_iff_mem, List.mem_map]
    exact ⟨p, h2, by simpa using h1⟩
set_option maxRecDepth 100000
theorem has_f' {t : List PairD} {k j : Nat} {s : Bytes} (hj : (t.take k).length ≤ j) (h : ∀ i (hi : i < (t.take k).length), i < j → decide ((t.take k)[i].from_ = s) = false) : ((t.take k).map PairD.from_).contains s = false := by
  rw [Bool.eq_false_iff]
  intro hc; rw [List.contains_iff_mem, List.mem_map] at hc; obtain ⟨p, hp, e⟩ := hc; obtain ⟨i, hi, rfl⟩ := List.mem_iff_getElem.1 hp
  have := h i hi (by omega)
  simp only [decide_eq_false_iff_not] at this
  exact this e
theorem has_t' {t : List PairD} {k j : Nat} {s : Bytes} (hj : j < (t.take k).length) (h : (t.take k)[j].from_ = s) : ((t.take k).map PairD.from_).contains s = true := by
  rw [List.contains_iff_mem, List.mem_map]
  exact ⟨_, List.getElem_mem hj, h⟩
theorem rtable_c (t u : List PairD) : AC Try.prog 94 [.sl (t.map PairD.cs), .sl (u.map PairD.cs)] (fun x => x = .s (AB (tabB t u))) := by
  refine AC.of' 52 2 Try.func94 rfl ?_; change AW _ _ _ _ [TK.mk 0 .off, TK.mk 0 .off]; refine AW.g (AL.ra ?_); refine AL.nil (AW.seq (AW.g (AL.rm ?_))); refine AL.r (lN el_59) ?_; refine AL.r qb ?_; refine AL.rm ?_; refine AL.fk (d := 14) rfl (fun h14 => ?_) (fun h14 => ?_)
  ·refine AL.n ?_; (iterate 3 refine AL.rf ?_); refine AL.r qt ?_; refine AL.nil (AW.cond_t rfl (AW.g (AL.ra ?_))); refine AL.nil (AW.ret (r1t ?_)); rw [tabB_len (by omega)]
  refine AL.n ?_; refine AL.ro (rd_move rfl rfl) ?_; refine AL.ro (lN el_59) ?_; refine AL.ro qb ?_; refine AL.r qf ?_; refine AL.nil (AW.cd rfl (fun h18 => ?_) (fun h18 => ?_))
  ·refine AW.g (AL.ra ?_); refine AL.nil (AW.ret (r1t ?_)); rw [tabB_len (by omega)]
  refine AW.skip (AW.seq (AW.g (AL.rm ?_))); refine AL.r (lN el_59) ?_; refine AL.rm ?_; refine AL.nil (AW.block (AW.loopM (ι := Nat) [4, 5, 6, 8, 9, 10, 22, 23, 24, 25, 26, 27, 28, 29, 30, 31, 32, 33, 34, 35, 36, 37, 38, 39, 40, 41, 42, 43, 44, 45, 46, 47, 48, 49, 50, 51, 52, 53] (fun k => [(21, AI (k : Int))]) [0, 1] (fun k => []) (fun k => k ≤ t.length ∧ ∀ i, i < k → okT t u i = true) (fun k => t.length - k) 0 (⟨by omega, fun i hi => absurd hi (by omega)⟩) wk sk ?_)); rintro k gs hJ; refine AW.nm ?_; obtain ⟨hk, hok⟩ := hJ; refine AW.g (AL.r qb ?_); refine AL.nil (AW.seq (AW.cd rfl (fun h22 => ?_) (fun h22 => ?_)))
  ·refine AW.skip (AW.seq (AW.block (AW.g (AL.rm ?_)))); refine AL.r (rd_iaddr_sl rfl el_59 rfl rfl rfl (get_mapA (by omega)) rfl) ?_; refine AL.r (rd_loadN_ep rfl ag_127 rfl (Nat.le_of_ble_eq_true rfl) rfl) ?_; refine AL.oq (AOpB.op (oA 0 ze_127 ?_)); refine AL.n ?_; refine AL.ra ?_; refine AL.oq (oS sz_127 ?_); refine AL.n ?_; refine AL.nil (AW.seq (AW.g (AL.r (qa fo_127_0) ?_))); refine AL.r (ql ag_9) ?_; refine AL.cl (name_c _) ?_; refine AL.n ?_; refine AL.r qu ?_; refine AL.nil (AW.cd rfl (fun h29 => ?_) (fun h29 => ?_))
   ·refine AW.g (AL.ra ?_); refine AL.nil (AW.ret (r1t ?_)); rw [tabB_f (k := k) (by omega) (by rw [okT_at (by omega)]; simp_all)]
   refine AW.skip (AW.seq (AW.g ?_)); (iterate 2 refine AL.rm ?_); refine AL.r (rd_slice_sl rfl el_59 rfl (by first | exact csS_one | exact byA_one | (intro cs hcs; obtain rfl := List.mem_singleton.1 hcs; rfl) | (intro cs hcs; obtain ⟨_, _, rfl⟩ := List.mem_map.1 hcs; rfl)) rfl ⟨_, _, rfl, rfl⟩ (by omega) (by simp only [csS_len, byA_len, List.length_map]; omega)) ?_; refine AL.r (lN el_59) ?_; refine AL.rm ?_; refine AL.nil (AW.block (AW.loopM (ι := Nat) [4, 8, 35, 36, 37, 38, 39, 40, 41, 42, 43] (fun j => [(34, AI (j : Int))]) [1] (fun j => []) (fun j => j ≤ (t.take k).length ∧ ∀ i (hi : i < (t.take k).length), i < j → decide ((t.take k)[i].from_ = (t[k]'(by omega)).from_) = false) (fun j => (t.take k).length - j) 0 (⟨by omega, fun i _ hi => absurd hi (by omega)⟩) wk sk ?_)); rintro j gs hJ; refine AW.nm ?_; obtain ⟨hj, hoj⟩ := hJ; (have hq := List.length_take_le k t); refine AW.g (AL.r qb ?_); refine AL.nil (AW.seq (AW.cd rfl (fun h35 => ?_) (fun h35 => ?_)))
   ·refine AW.skip (AW.seq (AW.block (AW.g (AL.r (rd_iaddr_sl rfl el_59 rfl rfl rfl (get_mapA (by omega)) rfl) ?_)))); refine AL.r (rd_loadN_ep rfl ag_127 rfl (Nat.le_of_ble_eq_true rfl) rfl) ?_; refine AL.oq (AOpB.op (oA 1 ze_127 ?_)); refine AL.n ?_; refine AL.oq (oS sz_127 ?_); refine AL.n ?_; refine AL.nil (AW.g ?_); (iterate 2 (refine AL.r (qa fo_127_0) ?_; refine AL.r (ql ag_9) ?_)); refine AL.r (rd_seq rfl rfl rfl) ?_; refine AL.nil (AW.cd rfl (fun h42 => ?_) (fun h42 => ?_))
    ·refine AW.g (AL.ra ?_); refine AL.nil (AW.ret (r1t ?_)); rw [tabB_f (k := k) (by omega) (by rw [okT_at (by omega), has_t' (by omega) h42]; simp)]
    refine AW.skip ?_; change AW _ _ _ _ _; refine AW.region ?_; refine AL.r qA ?_; refine AL.rm ?_; refine AL.nil ?_; refine ⟨j + 1, ?_, by first | omega | (simp only []; omega), ?_, ?_⟩
    ·exact ⟨by omega, all_nextL (p := fun (y : PairD) => decide (y.from_ = (t[k]'(by omega)).from_) = false) (by omega) hoj (decide_eq_false h42)⟩
    ·exact wk
    exact sk
   refine AW.exit ?_; change AW _ _ _ _ _; refine AW.g (AL.rm ?_); refine AL.r (qa fo_127_1) ?_; refine AL.r (ql ag_9) ?_; refine AL.cl (case_c u (t[k]'(by omega)).tQ) ?_; refine AL.n ?_; refine AL.rm ?_; refine AL.r qe ?_; refine AL.r qe ?_; (iterate 2 refine AL.ra ?_); refine AL.nil (AW.g (AL.rm ?_)); refine AL.r qu ?_; refine AL.nil (AW.cd rfl (fun h52 => ?_) (fun h52 => ?_))
   ·refine AW.g (AL.ra ?_); refine AL.nil (AW.ret (r1t ?_)); rw [tabB_f (k := k) (by omega) (by rw [okT_at (by omega)]; rw [caseP_ok] at h52; simp_all)]
   refine AW.skip ?_; change AW _ _ _ _ _; refine AW.region ?_; refine AL.r qA ?_; refine AL.rm ?_; refine AL.nil ?_; refine ⟨k + 1, ?_, by first | omega | (simp only []; omega), ?_, ?_⟩
   ·exact ⟨by omega, all_next hok (by rw [okT_at (by omega), has_f' (by omega) hoj]; rw [caseP_ok] at h52; simp_all)⟩
   ·exact wk
   exact sk
  refine AW.exit ?_; change AW _ _ _ _ _; refine AW.g (AL.ra ?_); refine AL.nil (AW.ret (r1t ?_)); rw [tabB_t (by omega) (by omega) (fun i hi => hok i (by omega))]
end Go.Proofs.Ytlapcfnmmpbeeaa
