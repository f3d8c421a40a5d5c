/- A part of a proof. -/
import Derived.Test.YtlapcfnmmpbeeaaPT07
set_option linter.unusedSimpArgs false
set_option linter.unusedVariables false
namespace Go.Proofs.Ytlapcfnmmpbeeaa
set_option maxRecDepth 100000
open Go.RowKit
def letB (c : UInt8) : Bool := decide (97 ≤ c.toNat) && decide (c.toNat ≤ 122)
def digB (c : UInt8) : Bool := decide (48 ≤ c.toNat) && decide (c.toNat ≤ 57)
def okN (c : UInt8) (i : Nat) : Bool := letB c || (digB c && decide (i ≠ 0))
def nameB (s : Bytes) : Bool := decide (1 ≤ s.length) && decide (s.length ≤ 12) && (List.range s.length).all fun i => okN (s.getD i 0) i
theorem okN_t {c : UInt8} {i : Nat} (h : (97 ≤ c.toNat ∧ c.toNat ≤ 122) ∨ (48 ≤ c.toNat ∧ c.toNat ≤ 57 ∧ i ≠ 0)) : okN c i = true := by
  unfold okN letB digB
  simp only [Bool.or_eq_true, Bool.and_eq_true, decide_eq_true_eq]
  omega
theorem okN_f {c : UInt8} {i : Nat} (h : ¬ ((97 ≤ c.toNat ∧ c.toNat ≤ 122) ∨ (48 ≤ c.toNat ∧ c.toNat ≤ 57 ∧ i ≠ 0))) : okN c i = false := by
  cases hc : okN c i with
  | false => rfl
  | true =>
    unfold okN letB digB at hc
    simp only [Bool.or_eq_true, Bool.and_eq_true, decide_eq_true_eq] at hc
    omega
theorem nameB_t {s : Bytes} (h1 : 1 ≤ s.length) (h2 : s.length ≤ 12) (h : ∀ i, i < s.length → okN (s.getD i 0) i = true) : nameB s = true := by
  unfold nameB
  simp only [h1, h2, decide_true, Bool.true_and, List.all_eq_true, List.mem_range]
  exact h
theorem nameB_f {s : Bytes} {k : Nat} (hk : k < s.length) (h : okN s[k] k = false) : nameB s = false := by
  unfold nameB
  have : ((List.range s.length).all fun i => okN (s.getD i 0) i) = false := by
    rw [List.all_eq_false]
    exact ⟨k, List.mem_range.2 hk, by rw [List.getD_eq_getElem?_getD, List.getElem?_eq_getElem hk]; simp [h]⟩
  rw [this, Bool.and_false]
theorem okN_next {s : Bytes} {k : Nat} (hk : k < s.length) (h : ∀ i, i < k → okN (s.getD i 0) i = true) (h' : okN s[k] k = true) : ∀ i, i < k + 1 → okN (s.getD i 0) i = true := fun i hi => by
  rcases Nat.lt_or_ge i k with h1 | h1
  · exact h i h1
  obtain rfl : i = k := by omega
  rw [List.getD_eq_getElem?_getD, List.getElem?_eq_getElem hk]; exact h'
theorem name_c (s : Bytes) : AC Try.prog 69 [AS s] (fun r => r = .s (AB (nameB s))) := by
  refine AC.of' 49 0 Try.func69 rfl ?_; change AW _ _ _ _ []; refine AW.g (AL.ra ?_); refine AL.nil (AW.seq (AW.g (AL.rm ?_))); refine AL.r (rd_len_str rfl str_9 rfl) ?_; refine AL.r qb ?_; refine AL.rm ?_; refine AL.fk (d := 9) rfl (fun h9 => ?_) (fun h9 => ?_)
  ·refine AL.n ?_; (iterate 3 refine AL.rf ?_); refine AL.r qt ?_; refine AL.nil (AW.cond_t rfl (AW.g (AL.ra ?_))); refine AL.nil (AW.ret (r1t ?_))
   (have : nameB s = false := by (unfold nameB; simp; omega)); simp_all
  refine AL.n ?_; refine AL.ro (rd_move rfl rfl) ?_; refine AL.ro (rd_len_str rfl str_9 rfl) ?_; refine AL.ro qb ?_; refine AL.r qf ?_; refine AL.nil (AW.cd rfl (fun h13 => ?_) (fun h13 => ?_))
  ·refine AW.g (AL.ra ?_); refine AL.nil (AW.ret (r1t ?_))
   (have : nameB s = false := by (unfold nameB; simp; omega)); simp_all
  refine AW.skip (AW.seq (AW.g (AL.rm ?_))); refine AL.r (rd_len_str rfl str_9 rfl) ?_; refine AL.rm ?_; refine AL.nil (AW.block (AW.loopM (ι := Nat) [2, 3, 4, 5, 17, 18, 19, 20, 21, 22, 23, 24, 25, 26, 27, 28, 29, 30, 31, 32, 33, 34, 35, 36, 37, 38, 39, 40, 41, 42, 43, 44, 45, 46, 47, 48, 49] (fun k => [(16, AI (k : Int))]) [] (fun k => []) (fun k => k ≤ s.length ∧ ∀ i, i < k → okN (s.getD i 0) i = true) (fun k => s.length - k) 0 (⟨by omega, fun i hi => absurd hi (by omega)⟩) wk sk ?_)); rintro k gs hJ; refine AW.nm ?_; obtain ⟨hk, hok⟩ := hJ; refine AW.g (AL.r qb ?_); refine AL.nil (AW.seq (AW.cd rfl (fun h17 => ?_) (fun h17 => ?_)))
  ·refine AW.skip (AW.seq (AW.block (AW.g (AL.rm ?_)))); refine AL.ra ?_; refine AL.nil (AW.g ?_); (iterate 2 refine AL.rm ?_); refine AL.r (rd_index_str rfl str_9 rfl rfl (rfl) (List.getElem?_eq_getElem (by omega))) ?_; refine AL.r qb ?_; refine AL.rm ?_; refine AL.fk (d := 23) rfl (fun h23 => ?_) (fun h23 => ?_)
   ·refine AL.n ?_; refine AL.ro (rd_move rfl rfl) ?_; refine AL.ro (rd_move rfl rfl) ?_; refine AL.ro (rd_index_str rfl str_9 rfl rfl (rfl) (List.getElem?_eq_getElem (by omega))) ?_; refine AL.ro qb ?_; refine AL.r qt ?_; refine AL.ra ?_; refine AL.nil (AW.g ?_); (iterate 2 refine AL.rm ?_); refine AL.r (rd_index_str rfl str_9 rfl rfl (rfl) (List.getElem?_eq_getElem (by omega))) ?_; refine AL.r qb ?_; refine AL.rm ?_; refine AL.fk (d := 33) rfl (fun h33 => ?_) (fun h33 => ?_)
    ·refine AL.n ?_; refine AL.ro (rd_move rfl rfl) ?_; refine AL.ro (rd_move rfl rfl) ?_; refine AL.ro (rd_index_str rfl str_9 rfl rfl (rfl) (List.getElem?_eq_getElem (by omega))) ?_; refine AL.ro qb ?_; refine AL.r qt ?_; refine AL.ra ?_; refine AL.nil (AW.g (AL.rm ?_)); refine AL.r qu ?_; refine AL.rm ?_; refine AL.fk (d := 41) rfl (fun h41 => ?_) (fun h41 => ?_)
     ·refine AL.n ?_; refine AL.ro (rd_move rfl rfl) ?_; refine AL.ro qu ?_; refine AL.ro (rd_move rfl rfl) ?_; refine AL.fk (d := 44) rfl (fun h44 => ?_) (fun h44 => ?_)
      ·refine AL.n ?_; (iterate 2 refine AL.rf ?_); refine AL.ro (rd_pick_t rfl rfl rfl) ?_; refine AL.r qt ?_; refine AL.nil (AW.cond_t rfl (AW.g (AL.ra ?_))); refine AL.nil (AW.ret (r1t ?_)); rw [nameB_f (k := k) (by omega) (okN_f (by omega))]
      refine AL.n ?_; refine AL.ro (rd_move rfl rfl) ?_; refine AL.ro qb ?_; refine AL.ro (rd_pick_f rfl rfl rfl) ?_; refine AL.r qt ?_; refine AL.nil (AW.cd rfl (fun h48 => ?_) (fun h48 => ?_))
      ·refine AW.g (AL.ra ?_); refine AL.nil (AW.ret (r1t ?_)); rw [nameB_f (k := k) (by omega) (okN_f (by omega))]
      refine AW.skip ?_; change AW _ _ _ _ _; refine AW.region ?_; refine AL.r qA ?_; refine AL.rm ?_; refine AL.nil ?_; refine ⟨k + 1, ?_, by first | omega | (simp only []; omega), ?_, ?_⟩
      ·exact ⟨by omega, okN_next (by omega) hok (okN_t (by omega))⟩
      ·exact wk
      exact sk
     refine AL.n ?_; (iterate 3 refine AL.rf ?_); (iterate 2 refine AL.ru ?_); refine AL.rf ?_; refine AL.r qf ?_; refine AL.nil ?_; change AW _ _ _ _ _; refine AW.cond_f rfl ?_; refine AW.skip ?_; change AW _ _ _ _ _; refine AW.region ?_; refine AL.r qA ?_; refine AL.rm ?_; refine AL.nil ?_; refine ⟨k + 1, ?_, by first | omega | (simp only []; omega), ?_, ?_⟩
     ·exact ⟨by omega, okN_next (by omega) hok (okN_t (by omega))⟩
     ·exact wk
     exact sk
    refine AL.n ?_; (iterate 4 refine AL.rf ?_); refine AL.r qf ?_; refine AL.ra ?_; refine AL.nil (AW.g (AL.rm ?_)); refine AL.r qu ?_; refine AL.rm ?_; refine AL.fk (d := 41) rfl (fun h41 => ?_) (fun h41 => ?_)
    ·refine AL.n ?_; refine AL.ro (rd_move rfl rfl) ?_; refine AL.ro qu ?_; refine AL.ro (rd_move rfl rfl) ?_; (iterate 2 refine AL.rf ?_); refine AL.ro (rd_pick_t rfl rfl rfl) ?_; refine AL.r qt ?_; refine AL.nil (AW.cond_t rfl (AW.g (AL.ra ?_))); refine AL.nil (AW.ret (r1t ?_)); rw [nameB_f (k := k) (by omega) (okN_f (by omega))]
    refine AL.n ?_; (iterate 3 refine AL.rf ?_); (iterate 2 refine AL.ru ?_); refine AL.rf ?_; refine AL.r qf ?_; refine AL.nil ?_; change AW _ _ _ _ _; refine AW.cond_f rfl ?_; refine AW.skip ?_; change AW _ _ _ _ _; refine AW.region ?_; refine AL.r qA ?_; refine AL.rm ?_; refine AL.nil ?_; refine ⟨k + 1, ?_, by first | omega | (simp only []; omega), ?_, ?_⟩
    ·exact ⟨by omega, okN_next (by omega) hok (okN_t (by omega))⟩
    ·exact wk
    exact sk
   refine AL.n ?_; (iterate 4 refine AL.rf ?_); refine AL.r qf ?_; refine AL.ra ?_; refine AL.nil (AW.g ?_); (iterate 2 refine AL.rm ?_); refine AL.r (rd_index_str rfl str_9 rfl rfl (rfl) (List.getElem?_eq_getElem (by omega))) ?_; refine AL.r qb ?_; refine AL.rm ?_; refine AL.fk (d := 33) rfl (fun h33 => ?_) (fun h33 => ?_)
   ·refine AL.n ?_; refine AL.ro (rd_move rfl rfl) ?_; refine AL.ro (rd_move rfl rfl) ?_; refine AL.ro (rd_index_str rfl str_9 rfl rfl (rfl) (List.getElem?_eq_getElem (by omega))) ?_; refine AL.ro qb ?_; refine AL.r qt ?_; refine AL.ra ?_; refine AL.nil (AW.g (AL.rm ?_)); refine AL.r qu ?_; refine AL.rm ?_; refine AL.ro (rd_move rfl rfl) ?_; refine AL.ro qu ?_; refine AL.ro (rd_move rfl rfl) ?_; refine AL.fk (d := 44) rfl (fun h44 => ?_) (fun h44 => ?_)
    ·refine AL.n ?_; (iterate 2 refine AL.rf ?_); refine AL.ro (rd_pick_t rfl rfl rfl) ?_; refine AL.r qt ?_; refine AL.nil (AW.cond_t rfl (AW.g (AL.ra ?_))); refine AL.nil (AW.ret (r1t ?_)); rw [nameB_f (k := k) (by omega) (okN_f (by omega))]
    refine AL.n ?_; refine AL.ro (rd_move rfl rfl) ?_; refine AL.ro qb ?_; refine AL.ro (rd_pick_f rfl rfl rfl) ?_; refine AL.r qt ?_; refine AL.nil (AW.cd rfl (fun h48 => ?_) (fun h48 => ?_))
    ·refine AW.g (AL.ra ?_); refine AL.nil (AW.ret (r1t ?_)); rw [nameB_f (k := k) (by omega) (okN_f (by omega))]
    refine AW.skip ?_; change AW _ _ _ _ _; refine AW.region ?_; refine AL.r qA ?_; refine AL.rm ?_; refine AL.nil ?_; refine ⟨k + 1, ?_, by first | omega | (simp only []; omega), ?_, ?_⟩
    ·exact ⟨by omega, okN_next (by omega) hok (okN_t (by omega))⟩
    ·exact wk
    exact sk
   refine AL.n ?_; (iterate 4 refine AL.rf ?_); refine AL.r qf ?_; refine AL.ra ?_; refine AL.nil (AW.g (AL.rm ?_)); refine AL.r qu ?_; refine AL.rm ?_; refine AL.ro (rd_move rfl rfl) ?_; refine AL.ro qu ?_; refine AL.ro (rd_move rfl rfl) ?_; (iterate 2 refine AL.rf ?_); refine AL.ro (rd_pick_t rfl rfl rfl) ?_; refine AL.r qt ?_; refine AL.nil (AW.cond_t rfl (AW.g (AL.ra ?_))); refine AL.nil (AW.ret (r1t ?_)); rw [nameB_f (k := k) (by omega) (okN_f (by omega))]
  refine AW.exit ?_; change AW _ _ _ _ _; refine AW.g (AL.ra ?_); refine AL.nil (AW.ret (r1t ?_)); rw [nameB_t (by omega) (by omega) (fun i hi => hok i (by omega))]
def placeB (r : RefD) : Bool := (r.scope == 0 || r.scope == 1) && nameB r.name && (r.group == [] || nameB r.group)
theorem place_c (r : RefD) : AC Try.prog 71 [r.av] (fun x => x = .s (AB (placeB r))) := by
  refine AC.of' 23 1 Try.func71 rfl ?_; change AW _ _ _ _ [TK.mk 0 .off]; refine AW.g (AL.oq (AOpB.op (oB 0 ?_))); refine AL.n ?_; refine AL.ra ?_; refine AL.nil (AW.seq (AW.g (AL.r (qa fo_55_0) ?_))); refine AL.r (ql ag_3) ?_; refine AL.r qb ?_; refine AL.rm ?_; refine AL.fk (d := 6) rfl (fun h6 => ?_) (fun h6 => ?_)
  ·refine AL.n ?_; refine AL.ro (qa fo_55_0) ?_; refine AL.ro (ql ag_3) ?_; refine AL.ro qb ?_; refine AL.r qt ?_; refine AL.nil (AW.cd rfl (fun h10 => ?_) (fun h10 => ?_))
   ·refine AW.g (AL.ra ?_); refine AL.nil (AW.ret (r1t ?_)); simp_all [placeB]
   refine AW.skip (AW.g (AL.r (qa fo_55_2) ?_)); refine AL.r (ql ag_9) ?_; refine AL.cl (name_c _) ?_; refine AL.n ?_; refine AL.rm ?_; refine AL.fk (d := 14) rfl (fun h14 => ?_) (fun h14 => ?_)
   ·refine AL.n ?_; refine AL.ro (qa fo_55_1) ?_; refine AL.ro (ql ag_9) ?_; refine AL.ro (rd_seq rfl rfl rfl) ?_; refine AL.ro (rd_move rfl rfl) ?_; refine AL.fk (d := 18) rfl (fun h18 => ?_) (fun h18 => ?_)
    ·refine AL.n ?_; (iterate 3 refine AL.rf ?_); refine AL.ro (rd_pick_t rfl rfl rfl) ?_; refine AL.r qt ?_; refine AL.ra ?_; refine AL.nil (AW.ret (r1t ?_)); simp_all [placeB]
    refine AL.n ?_; refine AL.ro (qa fo_55_1) ?_; refine AL.ro (ql ag_9) ?_; refine AL.on rfl rfl rfl (AOpB.op (op_call (name_c _) rfl (by kernel_rfl) rfl (none) ?_)); rintro r rfl; refine AL.n ?_; refine AL.ro (rd_pick_f rfl rfl rfl) ?_; refine AL.r qt ?_; refine AL.ra ?_; refine AL.nil (AW.ret (r1t ?_)); simp_all [placeB]
   refine AL.n ?_; (iterate 4 refine AL.rf ?_); (iterate 3 refine AL.ru ?_); refine AL.rf ?_; refine AL.r qf ?_; refine AL.ra ?_; refine AL.nil (AW.ret (r1t ?_)); simp_all [placeB]
  refine AL.n ?_; (iterate 3 refine AL.rf ?_); refine AL.r qf ?_; refine AL.nil (AW.cond_f rfl (AW.skip (AW.g (AL.r (qa fo_55_2) ?_)))); refine AL.r (ql ag_9) ?_; refine AL.cl (name_c _) ?_; refine AL.n ?_; refine AL.rm ?_; refine AL.fk (d := 14) rfl (fun h14 => ?_) (fun h14 => ?_)
  ·refine AL.n ?_; refine AL.ro (qa fo_55_1) ?_; refine AL.ro (ql ag_9) ?_; refine AL.ro (rd_seq rfl rfl rfl) ?_; refine AL.ro (rd_move rfl rfl) ?_; refine AL.fk (d := 18) rfl (fun h18 => ?_) (fun h18 => ?_)
   ·refine AL.n ?_; (iterate 3 refine AL.rf ?_); refine AL.ro (rd_pick_t rfl rfl rfl) ?_; refine AL.r qt ?_; refine AL.ra ?_; refine AL.nil (AW.ret (r1t ?_)); simp_all [placeB]
   refine AL.n ?_; refine AL.ro (qa fo_55_1) ?_; refine AL.ro (ql ag_9) ?_; refine AL.on rfl rfl rfl (AOpB.op (op_call (name_c _) rfl (by kernel_rfl) rfl (none) ?_)); rintro r rfl; refine AL.n ?_; refine AL.ro (rd_pick_f rfl rfl rfl) ?_; refine AL.r qt ?_; refine AL.ra ?_; refine AL.nil (AW.ret (r1t ?_)); simp_all [placeB]
  refine AL.n ?_; (iterate 4 refine AL.rf ?_); (iterate 3 refine AL.ru ?_); refine AL.rf ?_; refine AL.r qf ?_; refine AL.ra ?_; refine AL.nil (AW.ret (r1t ?_)); simp_all [placeB]
theorem text_c (s : Bytes) : AC Try.prog 72 [AS s] (fun x => x = .s (AB (decide (s.length ≤ 40)))) := by
  refine AC.of' 5 0 Try.func72 rfl ?_; change AW _ _ _ _ []; refine AW.g (AL.ra ?_); refine AL.nil (AW.g (AL.rm ?_)); refine AL.r (rd_len_str rfl str_9 rfl) ?_; refine AL.r qb ?_; refine AL.ra ?_; refine AL.nil (AW.ret (r1t ?_))
  (congr 3; simp only [decide_eq_decide]; omega)
theorem index_c (l : List Bytes) (s : Bytes) : AC Try.prog 98 [.sl (csS l), AS s] (fun x => x = .s (AI (match l.findIdx? (· == s) with | some i => (i : Int) | none => -1))) := by
  refine AC.of' 17 0 Try.func98 rfl ?_; change AW _ _ _ _ []; refine AW.g (AL.ra ?_); refine AL.nil (AW.seq (AW.g (AL.len (x := .tmp 0) rfl (fun hlen => ?_)))); refine AL.rm ?_; rw [csS_len] at hlen; refine AL.r (lN el_56) ?_
  unfold maxLen at hlen
  refine AL.rm ?_; refine AL.nil (AW.block (AW.loopM (ι := Nat) [4, 5, 9, 10, 11, 12, 13, 14, 15, 16, 17, 18] (fun k => [(8, AI (k : Int))]) [] (fun k => []) (fun k => k ≤ l.length ∧ ∀ i (hi : i < l.length), i < k → (l[i] == s) = false) (fun k => l.length - k) 0 (⟨by omega, fun i _ hi => absurd hi (by omega)⟩) wk sk ?_)); rintro k gs hJ; refine AW.nm ?_; obtain ⟨hk, hok⟩ := hJ; refine AW.g (AL.r qb ?_); refine AL.nil (AW.seq (AW.cd rfl (fun h9 => ?_) (fun h9 => ?_)))
  ·refine AW.skip (AW.seq (AW.block (AW.g (AL.rm ?_)))); refine AL.ra ?_; refine AL.nil (AW.g ?_); (iterate 3 refine AL.rm ?_); refine AL.r (rd_iaddr_sl rfl el_56 rfl rfl rfl (get_mapA (by omega)) rfl) ?_; refine AL.r (rd_load_ep rfl ag_9 rfl rfl) ?_; refine AL.r (rd_seq rfl rfl rfl) ?_; refine AL.nil (AW.cd rfl (fun h16 => ?_) (fun h16 => ?_))
   ·refine AW.g (AL.rm ?_); refine AL.ra ?_; refine AL.nil (AW.ret (r1t ?_)); rw [find_some (by omega) hok (by simp [h16])]
   refine AW.skip ?_; change AW _ _ _ _ _; refine AW.region ?_; refine AL.r qA ?_; refine AL.rm ?_; refine AL.nil ?_; refine ⟨k + 1, ?_, by first | omega | (simp only []; omega), ?_, ?_⟩
   ·exact ⟨by omega, all_nextL (p := fun y => (y == s) = false) (by omega) hok (by simp; exact fun e => h16 e.symm)⟩
   ·exact wk
   exact sk
  refine AW.exit ?_; change AW _ _ _ _ _; refine AW.g (AL.ra ?_); refine AL.nil (AW.ret (r1t ?_)); rw [find_none (fun i hi => hok i hi (by omega))]
theorem contains_idx (l : List Bytes) (s : Bytes) : decide ((match l.findIdx? (· == s) with | some i => (i : Int) | none => -1) ≥ 0) = l.contains s := by
  cases h : l.findIdx? (· == s) with
  | none =>
    have := List.findIdx?_eq_none_iff.1 h
    have h2 : l.contains s = false := by
      rw [List.contains_eq_any_beq, List.any_eq_false]
      intro x hx
      have := this x hx
      simp at this ⊢
      exact fun e => this e.symm
    rw [h2]; rfl
  | some i =>
    have hm := List.findIdx?_eq_some_iff_getElem.1 h
    obtain ⟨h1, h2, _⟩ := hm
    have h3 : l.contains s = true := by
      rw [List.contains_eq_any_beq, List.any_eq_true]
      exact ⟨l[i], List.getElem_mem h1, by simp at h2 ⊢; exact h2.symm⟩
    rw [h3]
    simp
theorem contains_c (l : List Bytes) (s : Bytes) : AC Try.prog 93 [.sl (csS l), AS s] (fun x => x = .s (AB (l.contains s))) := by
  refine AC.of' 7 0 Try.func93 rfl ?_; change AW _ _ _ _ []; refine AW.g (AL.ra ?_); refine AL.nil (AW.g ?_); (iterate 2 refine AL.rm ?_); refine AL.cl (index_c _ _) ?_; refine AL.n ?_; refine AL.r qb ?_; refine AL.ra ?_; refine AL.nil (AW.ret (r1t ?_)); rw [contains_idx]
theorem equal_c (l m : List Bytes) : AC Try.prog 97 [.sl (csS l), .sl (csS m)] (fun x => x = .s (AB (decide (l = m)))) := by
  refine AC.of' 24 0 Try.func97 rfl ?_; change AW _ _ _ _ []; refine AW.g (AL.ra ?_); refine AL.nil (AW.seq (AW.g (AL.len (x := .tmp 0) rfl (fun hlen => ?_)))); rw [csS_len] at hlen; unfold maxLen at hlen; refine AL.rm ?_; refine AL.r (lN el_56) ?_; refine AL.rm ?_; refine AL.r (lN el_56) ?_; refine AL.r qb ?_; refine AL.nil (AW.cd rfl (fun h10 => ?_) (fun h10 => ?_))
  ·refine AW.g (AL.ra ?_); refine AL.nil (AW.ret (r1t ?_)); rw [decide_eq_false (fun e => by subst e; simp at h10)]
  refine AW.skip (AW.seq (AW.g (AL.rm ?_))); refine AL.r (lN el_56) ?_; refine AL.rm ?_; refine AL.nil (AW.block (AW.loopM (ι := Nat) [4, 5, 14, 15, 16, 17, 18, 19, 20, 21, 22, 23, 24, 25] (fun k => [(13, AI (k : Int))]) [] (fun k => []) (fun k => k ≤ l.length ∧ l.take k = m.take k) (fun k => l.length - k) 0 (⟨by omega, rfl⟩) wk sk ?_)); rintro k gs hJ; refine AW.nm ?_; obtain ⟨hk, hok⟩ := hJ; refine AW.g (AL.r qb ?_); refine AL.nil (AW.seq (AW.cd rfl (fun h14 => ?_) (fun h14 => ?_)))
  ·refine AW.skip (AW.seq (AW.block (AW.g (AL.rm ?_)))); refine AL.ra ?_; refine AL.nil (AW.seq (AW.draw (by kernel_rfl) ?_)); refine AD.r 0 rfl (rd_move rfl rfl) rfl ?_; refine AD.r 1 rfl (rd_move rfl rfl) rfl ?_; refine AD.r 2 rfl (rd_iaddr_sl rfl el_56 rfl rfl rfl (get_mapA (by omega)) rfl) rfl ?_; refine AD.r 3 rfl (rd_load_ep rfl ag_9 rfl rfl) rfl ?_; refine AD.r 4 rfl (rd_move rfl rfl) rfl ?_; refine AD.r 5 rfl (rd_move rfl rfl) rfl ?_; refine AD.r 6 rfl (rd_iaddr_sl rfl el_56 rfl rfl rfl (get_mapA (by omega)) rfl) rfl ?_; refine AD.r 7 rfl (rd_load_ep rfl ag_9 rfl rfl) rfl ?_; refine AD.r 8 rfl (rd_sne rfl rfl rfl) rfl ?_; refine AD.done (by kernel_rfl) ?_; change AW _ _ _ _ _; refine AW.cd rfl (fun h24 => ?_) (fun h24 => ?_)
   ·refine AW.g (AL.ra ?_); refine AL.nil (AW.ret (r1t ?_)); rw [decide_eq_false (fun e => by subst e; exact h24 rfl)]
   refine AW.skip ?_; change AW _ _ _ _ _; refine AW.region ?_; refine AL.r qA ?_; refine AL.rm ?_; refine AL.nil ?_; refine ⟨k + 1, ?_, by first | omega | (simp only []; omega), ?_, ?_⟩
   ·exact ⟨by omega, take_eq_next (by omega) (by omega) hok h24⟩
   ·exact wk
   exact sk
  refine AW.exit ?_; change AW _ _ _ _ _; refine AW.g (AL.ra ?_); refine AL.nil (AW.ret (r1t ?_)); rw [decide_eq_true (by rw [List.take_of_length_le (by omega), List.take_of_length_le (by omega)] at hok; exact hok)]
structure FldD where
  at_ : RefD
  kind : Int
  dflt : Bytes
  cases : List Bytes
  worth : Int
deriving DecidableEq
def FldD.cs (f : FldD) : List AV := [AI f.at_.scope, AS f.at_.group, AS f.at_.name, AI f.kind, AS f.dflt, .sl (csS f.cases), AI f.worth]
abbrev FldD.av (f : FldD) : AV := .ag f.cs
def casesB (l : List Bytes) : Bool := decide (1 ≤ l.length) && decide (l.length ≤ 6) && (List.range l.length).all fun i => nameB (l.getD i []) && !(l.take i).contains (l.getD i [])
theorem casesB_t {l : List Bytes} (h1 : 1 ≤ l.length) (h2 : l.length ≤ 6) (h : ∀ i (hi : i < l.length), (nameB l[i] && !(l.take i).contains l[i]) = true) : casesB l = true := by
  unfold casesB
  simp only [h1, h2, decide_true, Bool.true_and, List.all_eq_true, List.mem_range]
  intro i hi; rw [List.getD_eq_getElem?_getD, List.getElem?_eq_getElem hi]; exact h i hi
theorem casesB_f {l : List Bytes} {k : Nat} (hk : k < l.length) (h : (nameB l[k] && !(l.take k).contains l[k]) = false) : casesB l = false := by
  unfold casesB
  have : ((List.range l.length).all fun i => nameB (l.getD i []) && !(l.take i).contains (l.getD i [])) = false := by
    rw [List.all_eq_false]
    exact ⟨k, List.mem_range.2 hk, by rw [List.getD_eq_getElem?_getD, List.getElem?_eq_getElem hk]; simpa using h⟩
  rw [this, Bool.and_false]
theorem next_cases {l : List Bytes} {k : Nat} (hk : k < l.length) (h : ∀ i (hi : i < l.length), i < k → (nameB l[i] && !(l.take i).contains l[i]) = true) (h' : (nameB l[k] && !(l.take k).contains l[k]) = true) : ∀ i (hi : i < l.length), i < k + 1 → (nameB l[i] && !(l.take i).contains l[i]) = true := fun i hi hik => by
  rcases Nat.lt_or_ge i k with h1 | h1
  · exact h i hi h1
  obtain rfl : i = k := by omega
  exact h'
theorem cases_c (l : List Bytes) : AC Try.prog 92 [.sl (csS l)] (fun x => x = .s (AB (casesB l))) := by
  refine AC.of' 30 0 Try.func92 rfl ?_; change AW _ _ _ _ []; refine AW.g (AL.ra ?_); refine AL.nil (AW.seq (AW.g (AL.rm ?_))); refine AL.r (lN el_56) ?_; refine AL.r qb ?_; refine AL.rm ?_; refine AL.fk (d := 8) rfl (fun h8 => ?_) (fun h8 => ?_)
  ·refine AL.n ?_; (iterate 3 refine AL.rf ?_); refine AL.r qt ?_; refine AL.nil (AW.cond_t rfl (AW.g (AL.ra ?_))); refine AL.nil (AW.ret (r1t ?_))
   (have : casesB l = false := by (unfold casesB; simp; omega)); simp_all
  refine AL.n ?_; refine AL.ro (rd_move rfl rfl) ?_; refine AL.ro (lN el_56) ?_; refine AL.ro qb ?_; refine AL.r qf ?_; refine AL.nil (AW.cd rfl (fun h12 => ?_) (fun h12 => ?_))
  ·refine AW.g (AL.ra ?_); refine AL.nil (AW.ret (r1t ?_))
   (have : casesB l = false := by (unfold casesB; simp; omega)); simp_all
  refine AW.skip (AW.seq (AW.g (AL.rm ?_))); refine AL.r (lN el_56) ?_; refine AL.rm ?_; refine AL.nil (AW.block (AW.loopM (ι := Nat) [2, 3, 4, 16, 17, 18, 19, 20, 21, 22, 23, 24, 25, 26, 27, 28, 29, 30] (fun k => [(15, AI (k : Int))]) [] (fun k => []) (fun k => k ≤ l.length ∧ ∀ i (hi : i < l.length), i < k → (nameB l[i] && !(l.take i).contains l[i]) = true) (fun k => l.length - k) 0 (⟨by omega, fun i _ hi => absurd hi (by omega)⟩) wk sk ?_)); rintro k gs hJ; refine AW.nm ?_; obtain ⟨hk, hok⟩ := hJ; refine AW.g (AL.r qb ?_); refine AL.nil (AW.seq (AW.cd rfl (fun h16 => ?_) (fun h16 => ?_)))
  ·refine AW.skip (AW.seq (AW.block (AW.g (AL.rm ?_)))); refine AL.r (rd_iaddr_sl rfl el_56 rfl rfl rfl (get_mapA (by omega)) rfl) ?_; refine AL.r (rd_load_ep rfl ag_9 rfl rfl) ?_; (iterate 2 refine AL.ra ?_); refine AL.nil (AW.g (AL.rm ?_)); refine AL.cl (name_c _) ?_; refine AL.n ?_; refine AL.r qu ?_; refine AL.rm ?_; refine AL.fk (d := 23) rfl (fun h23 => ?_) (fun h23 => ?_)
   ·refine AL.n ?_; (iterate 5 refine AL.rf ?_); refine AL.r qt ?_; refine AL.nil (AW.cond_t rfl (AW.g (AL.ra ?_))); refine AL.nil (AW.ret (r1t ?_)); rw [casesB_f (k := k) (by omega) (by simp_all)]
   refine AL.n ?_; refine AL.ro (rd_move rfl rfl) ?_; refine AL.ro (rd_move rfl rfl) ?_; refine AL.ro (rd_slice_sl rfl el_56 rfl (by first | (intro cs hcs; obtain ⟨_, _, rfl⟩ := List.mem_map.1 hcs; rfl) | simp) rfl ⟨_, _, rfl, rfl⟩ (by omega) (by rw [csS_len]; omega)) ?_; refine AL.ro (rd_move rfl rfl) ?_; refine AL.on rfl rfl rfl (AOpB.op (op_call (contains_c (l.take k) _) rfl (by kernel_rfl) rfl (none) ?_)); rintro r rfl; refine AL.n ?_; refine AL.r qf ?_; refine AL.nil (AW.cd rfl (fun h29 => ?_) (fun h29 => ?_))
   ·refine AW.g (AL.ra ?_); refine AL.nil (AW.ret (r1t ?_)); rw [casesB_f (k := k) (by omega) (by simp_all)]
   refine AW.skip ?_; change AW _ _ _ _ _; refine AW.region ?_; refine AL.r qA ?_; refine AL.rm ?_; refine AL.nil ?_; refine ⟨k + 1, ?_, by first | omega | (simp only []; omega), ?_, ?_⟩
   ·exact ⟨by omega, next_cases (by omega) hok (by simp_all)⟩
   ·exact wk
   exact sk
  refine AW.exit ?_; change AW _ _ _ _ _; refine AW.g (AL.ra ?_); refine AL.nil (AW.ret (r1t ?_)); rw [casesB_t (by omega) (by omega) (fun i hi => hok i hi (by omega))]
end Go.Proofs.Ytlapcfnmmpbeeaa
