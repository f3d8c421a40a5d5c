/- Walks over abstract states: forks, loops with a frame at the head, small lemmas for printed walks. No conditions. -/
import Derived.Test.YtgjpeldgjpgbcaaAr
namespace Go.Proofs.Ytgjpeldgjpgbcaa
set_option linter.unusedSimpArgs false
set_option linter.unusedVariables false
open Go.RowKit

section
variable {P : Program} {ops : Array Oper} {K : List AV → List TK → Prop} {l : List Oper} {t : List AV} {st : List TK} {Q : APost} {c : Code}
theorem Fm.setB {F : Nat → Prop} {ρ : Loc} {w : World} {a : Act} {d : Nat} {b : Bool} (hm : Fm F ρ st w a t) (hb : evA t (.tmp d) = .sc (.bool b)) : t.set d (.sc (.bool b)) = t := by
  apply List.ext_getElem?
  intro i
  rw [List.getElem?_set]
  split
  · rename_i e
    subst e
    split
    · rename_i h
      simp only [evA, List.getD_eq_getElem?_getD, List.getElem?_eq_getElem h, Option.getD_some] at hb
      rw [List.getElem?_eq_getElem h, hb]
    · rename_i h
      rw [List.getElem?_eq_none (by omega)]
  · rfl
theorem AL.fork {d : Nat} {b : Bool} (hb : evA t (.tmp d) = .sc (.bool b)) (ht : b = true → AL P ops K l (t.set d (.sc (.bool true))) st) (hf : b = false → AL P ops K l (t.set d (.sc (.bool false))) st) : AL P ops K l t st := fun F ρ w0 w a hs hm => by
  cases b with
  | true => have := ht rfl; rw [hm.setB hb] at this; exact this F ρ w0 w a hs hm
  | false => have := hf rfl; rw [hm.setB hb] at this; exact this F ρ w0 w a hs hm
theorem AD.fork {fuel : Nat} {listed : Array Bool} {d : Nat} {b : Bool} (hb : evA t (.tmp d) = .sc (.bool b)) (ht : b = true → AD P l K fuel listed (t.set d (.sc (.bool true))) st) (hf : b = false → AD P l K fuel listed (t.set d (.sc (.bool false))) st) : AD P l K fuel listed t st := fun F ρ w0 w a hs hm => by
  cases b with
  | true => have := ht rfl; rw [hm.setB hb] at this; exact this F ρ w0 w a hs hm
  | false => have := hf rfl; rw [hm.setB hb] at this; exact this F ρ w0 w a hs hm
theorem AW.cond_t {x : Operand} {y z : Code} (hc : evA t x = .sc (.bool true)) (h : AW P y Q t st) : AW P (.cond x y z) Q t st := AW.cond hc (fun _ => h) (fun e => by cases e)
theorem AW.cond_f {x : Operand} {y z : Code} (hc : evA t x = .sc (.bool false)) (h : AW P z Q t st) : AW P (.cond x y z) Q t st := AW.cond hc (fun e => by cases e) (fun _ => h)
/-- What is known of a slice that is read: its length. -/
theorem AW.len {x : Operand} {xs : List (List AV)} (hx : evA t x = .sl xs) (h : xs.length ≤ maxLen → AW P c Q t st) : AW P c Q t st := fun F ρ w0 w a hs hm => by
  have h1 := hm.ev x
  rw [hx] at h1
  obtain ⟨A, cc, _, h2, h3⟩ := h1.sl_s.sl_inv
  exact h (by omega) F ρ w0 w a hs hm
theorem AL.len {x : Operand} {xs : List (List AV)} (hx : evA t x = .sl xs) (h : xs.length ≤ maxLen → AL P ops K l t st) : AL P ops K l t st := fun F ρ w0 w a hs hm => by
  have h1 := hm.ev x
  rw [hx] at h1
  obtain ⟨A, cc, _, h2, h3⟩ := h1.sl_s.sl_inv
  exact h (by omega) F ρ w0 w a hs hm

/-- Slots whose content plays no part, slots that are written. -/
def anys : List AV → List Nat → List AV
  | t, [] => t
  | t, i :: is => anys (t.set i .any) is
def upds {α : Type} : List α → List (Nat × α) → List α
  | t, [] => t
  | t, p :: ps => upds (t.set p.1 p.2) ps
/-- Tickets of no more use. -/
def offs (gs : Nat → Nat) : List TK → List Nat → List TK
  | s, [] => s
  | s, i :: is => offs gs (s.set i ⟨gs i, .off⟩) is
inductive Sk (scr : List Nat) : Nat → List TK → List TK → Prop
  | nil (i : Nat) : Sk scr i [] []
  | same (i : Nat) {x : TK} {a b : List TK} (h : Sk scr (i + 1) a b) : Sk scr i (x :: a) (x :: b)
  | scr (i : Nat) {x y : TK} {a b : List TK} (hi : scr.contains i = true) (h : Sk scr (i + 1) a b) : Sk scr i (x :: a) (y :: b)
theorem Sk.get {scr : List Nat} {i : Nat} {a b : List TK} (h : Sk scr i a b) : a.length = b.length ∧ ∀ j, scr.contains (i + j) = true ∨ a[j]? = b[j]? := by
  induction h with
  | nil i => exact ⟨rfl, fun j => .inr rfl⟩
  | same i h ih =>
    refine ⟨by simp [ih.1], fun j => ?_⟩
    cases j with
    | zero => exact .inr rfl
    | succ j =>
      rcases ih.2 j with h1 | h1
      · exact .inl (by rwa [show i + (j + 1) = i + 1 + j by omega])
      · exact .inr (by simpa using h1)
  | scr i hi h ih =>
    refine ⟨by simp [ih.1], fun j => ?_⟩
    cases j with
    | zero => exact .inl hi
    | succ j =>
      rcases ih.2 j with h1 | h1
      · exact .inl (by rwa [show i + (j + 1) = i + 1 + j by omega])
      · exact .inr (by simpa using h1)
theorem offs_get (gs : Nat → Nat) : ∀ (is : List Nat) (s : List TK) (j : Nat), (offs gs s is).length = s.length ∧ (offs gs s is)[j]? = if is.contains j = true ∧ j < s.length then some ⟨gs j, .off⟩ else s[j]?
  | [], s, j => by simp [offs]
  | i :: is, s, j => by
    obtain ⟨h1, h2⟩ := offs_get gs is (s.set i ⟨gs i, .off⟩) j
    refine ⟨by rw [offs, h1]; simp, ?_⟩
    rw [offs, h2, List.length_set, List.getElem?_set]
    by_cases hj : j < s.length
    · by_cases e : i = j
      · subst e
        simp [hj]
      · have e' : ¬ j = i := fun h => e h.symm
        simp [hj, e, e', List.contains_cons]
    · have e2 : s[j]? = none := List.getElem?_eq_none (by omega)
      by_cases e : i = j
      · subst e; simp [hj, e2]
      · simp [hj, e, e2]
theorem St.offs {F : Nat → Prop} {ρ : Loc} {w0 : Bs} {w : World} (hs : St F ρ st w0 w) (scr : List Nat) (gs : Nat → Nat) (hg : ∀ (j : Nat) (tk : TK), st[j]? = some tk → gs j = tk.g) : St F ρ (offs gs st scr) w0 w ∧ Mv F ρ st w ρ (Go.Proofs.Ytgjpeldgjpgbcaa.offs gs st scr) w := by
  have get : ∀ (j : Nat) (tk : TK), (Go.Proofs.Ytgjpeldgjpgbcaa.offs gs st scr)[j]? = some tk → tk.c ≠ .off → st[j]? = some tk := fun j tk h hne => by
    rw [(offs_get gs scr st j).2] at h
    split at h
    · injection h with h; subst h; exact (hne rfl).elim
    · exact h
  have hfo : ∀ {k b : Nat} {c : TC}, foot ρ k c b → c ≠ .off := fun hf e => by subst e; exact hf
  have hmv : Mv F ρ st w ρ (Go.Proofs.Ytgjpeldgjpgbcaa.offs gs st scr) w := by
    refine ⟨fun b o hf ho => ⟨⟨hf.1, fun k tk hk hne => hf.2 k tk (get k tk hk (hfo hne)) hne⟩, ho⟩, fun k tk hk => ?_⟩
    have h2 := (offs_get gs scr st k).2
    split at h2
    · exact ⟨⟨gs k, .off⟩, h2, .inr (.inr (.inl ⟨hg k tk hk, rfl⟩))⟩
    · exact ⟨tk, h2.trans hk, .inl ⟨rfl, rfl⟩⟩
  refine ⟨⟨hs.below, hs.fresh, fun k g ty cs hk => ?_, fun k g el sz xs hk => ?_, fun k g p hk => ?_, fun k tk b hk hne => hs.ge k tk b (get k tk hk (hfo hne)) hne, fun k tk k' tk' b hk hne hk' hne' => hs.inj k tk k' tk' b (get k tk hk (hfo hne)) hne (get k' tk' hk' (hfo hne')) hne', hist_mv hs.hist hmv⟩, hmv⟩
  rotate_right 1
  · exact p.stab (hs.obj k g p (get k _ hk (by simp))) (Nat.le_refl _) (fun b hb => ⟨hs.fresh b hb, fun j tk hj hf => by have := (hs.ge j tk b (get j tk hj (hfo hf)) hf).2; omega⟩) hmv.free (fun b _ => rfl)
  · obtain ⟨vs, h1, h2, h3, h4⟩ := hs.box k g ty cs (get k _ hk (by simp))
    exact ⟨vs, h1, h2, h3, fun j v x hv hx => (h4 j v x hv hx).mv hmv⟩
  · obtain ⟨vs, h1, h2, h3, h4, h5⟩ := hs.own k g el sz xs (get k _ hk (by simp))
    exact ⟨vs, h1, h2, h3, h4, fun i j cs v x a b c => (h5 i j cs v x a b c).mv hmv.free⟩
theorem AW.offs (scr : List Nat) (gs : Nat → Nat) (hg : ∀ (j : Nat) (tk : TK), st[j]? = some tk → gs j = tk.g) (h : AW P c Q t (offs gs st scr)) : AW P c Q t st := fun F ρ w0 w a hs hm => by
  obtain ⟨h1, h2⟩ := hs.offs scr gs hg
  exact h F ρ w0 w a h1 (hm.mv h2)

/-- A loop: at its head the slots scr hold whatever, the tickets tscr nothing, and slots and tickets that the loop writes hold what up and tup say. -/
theorem AW.loopM {ι : Type} (scr : List Nat) (up : ι → List (Nat × AV)) (tscr : List Nat) (tup : ι → List (Nat × TK)) (J : ι → Prop) (μ : ι → Nat) (k0 : ι) (hJ : J k0) (hw : Wk t (upds (anys t scr) (up k0))) (hs : Sk tscr 0 st (upds st (tup k0)))
    (round : ∀ k gs, J k → AW P c (thenA (fun t' st' => ∃ k', J k' ∧ μ k' < μ k ∧ Wk t' (upds (anys t scr) (up k')) ∧ Sk tscr 0 st' (upds st (tup k'))) Q) (upds (anys t scr) (up k)) (Go.Proofs.Ytgjpeldgjpgbcaa.offs gs (upds st (tup k)) tscr)) : AW P (.loop c) Q t st := by
  have key : ∀ (s' : List TK) (k : ι), Sk tscr 0 s' (upds st (tup k)) → ∀ {cc : Code} {QQ : APost} {tt : List AV}, (∀ gs, AW P cc QQ tt (Go.Proofs.Ytgjpeldgjpgbcaa.offs gs (upds st (tup k)) tscr)) → AW P cc QQ tt s' := by
    intro s' k hsk cc QQ tt h
    obtain ⟨h1, h2⟩ := hsk.get
    let gs : Nat → Nat := fun j => ((s'[j]?).map TK.g).getD 0
    refine AW.offs tscr gs (fun j tk hj => by simp [gs, hj]) ?_
    have e : Go.Proofs.Ytgjpeldgjpgbcaa.offs gs s' tscr = Go.Proofs.Ytgjpeldgjpgbcaa.offs gs (upds st (tup k)) tscr := by
      apply List.ext_getElem?
      intro j
      rw [(offs_get gs tscr s' j).2, (offs_get gs tscr _ j).2, h1]
      rcases h2 j with h3 | h3
      · rw [Nat.zero_add] at h3
        by_cases hj : j < (upds st (tup k)).length
        · simp only [h3, hj, and_self, if_true]
        · simp only [h3, hj, and_false, if_false]
          rw [List.getElem?_eq_none (by omega), List.getElem?_eq_none (by omega)]
      · rw [h3]
    rw [e]
    exact h gs
  refine AW.loop (fun n t' st' => ∃ k, J k ∧ μ k = n ∧ Wk t' (upds (anys t scr) (up k)) ∧ Sk tscr 0 st' (upds st (tup k))) (μ k0) ⟨k0, hJ, rfl, hw, hs⟩ ?_
  intro n t' st' ⟨k, hJk, hk, hwk, hsk⟩
  subst hk
  refine AW.wk hwk (key st' k hsk fun gs => (round k gs hJk).mono fun e t2 st2 h => ?_)
  cases e with
  | normal => obtain ⟨k', h1, h2, h3, h4⟩ := h; exact ⟨μ k', h2, k', h1, rfl, h3, h4⟩
  | _ => exact h
theorem AL.norm {t' : List AV} {st' : List TK} (ht : t = t') (hs : st = st') (h : AL P ops K l t' st') : AL P ops K l t st := by subst ht hs; exact h
theorem AD.norm {fuel : Nat} {listed : Array Bool} {t' : List AV} {st' : List TK} (ht : t = t') (hs : st = st') (h : AD P l K fuel listed t' st') : AD P l K fuel listed t st := by subst ht hs; exact h
theorem AW.norm {t' : List AV} {st' : List TK} (ht : t = t') (hs : st = st') (h : AW P c Q t' st') : AW P c Q t st := by subst ht hs; exact h
theorem Wk.eq {x y : AV} {l m : List AV} (e : x = y) (h : Wk l m) : Wk (x :: l) (y :: m) := by subst e; exact .same h
/-- A piece whose ways meet again. -/
theorem AW.cutM {d : Code} (scr : List Nat) (up : List (Nat × AV)) (h1 : AW P c (thenA (fun t' st' => Wk t' (upds (anys t scr) up) ∧ st' = st) Q) t st) (h2 : AW P d Q (upds (anys t scr) up) st) : AW P (.seq c d) Q t st :=
  AW.seq (h1.mono fun e t' st' h => by
    cases e with
    | normal => obtain ⟨h3, rfl⟩ := h; exact AW.wk h3 h2
    | _ => exact h)
theorem rd_arith_add {o : Oper} {x y : Operand} {xt yt : TypeId} {k : IntKind} {a b r : Int} (ho : o.op = .binOp .add xt x y yt) (hx : evV t x = some (.int k a)) (hy : evV t y = some (.int k b)) (hw : k.wrap (a + b) = r) : ARd P o t st (.sc (.int k r)) :=
  rd_bin ho hx hy fun w => by subst hw; simp [eqGuard, binOp, Op.intArith, Sem.run_bind]
theorem rd_arith_sub {o : Oper} {x y : Operand} {xt yt : TypeId} {k : IntKind} {a b r : Int} (ho : o.op = .binOp .sub xt x y yt) (hx : evV t x = some (.int k a)) (hy : evV t y = some (.int k b)) (hw : k.wrap (a - b) = r) : ARd P o t st (.sc (.int k r)) :=
  rd_bin ho hx hy fun w => by subst hw; simp [eqGuard, binOp, Op.intArith, Sem.run_bind]
theorem rd_arith_mul {o : Oper} {x y : Operand} {xt yt : TypeId} {k : IntKind} {a b r : Int} (ho : o.op = .binOp .mul xt x y yt) (hx : evV t x = some (.int k a)) (hy : evV t y = some (.int k b)) (hw : k.wrap (a * b) = r) : ARd P o t st (.sc (.int k r)) :=
  rd_bin ho hx hy fun w => by subst hw; simp [eqGuard, binOp, Op.intArith, Sem.run_bind]
theorem find_some {α : Type} {p : α → Bool} {l : List α} {k : Nat} (hk : k < l.length) (h : ∀ i (hi : i < l.length), i < k → p l[i] = false) (h' : p l[k] = true) : l.findIdx? p = some k := by
  rw [List.findIdx?_eq_some_iff_getElem]
  exact ⟨hk, h', fun j hj => by rw [h j (by omega) hj]; simp⟩
theorem find_none {α : Type} {p : α → Bool} {l : List α} (h : ∀ i (hi : i < l.length), p l[i] = false) : l.findIdx? p = none := by
  rw [List.findIdx?_eq_none_iff]
  intro x hx
  obtain ⟨i, hi, rfl⟩ := List.getElem_of_mem hx
  exact h i hi
/-- What held of all ahead of k holds of all ahead of k + 1. -/
theorem all_next {p : Nat → Prop} {k : Nat} (h : ∀ i, i < k → p i) (h' : p k) : ∀ i, i < k + 1 → p i := fun i hi => by
  rcases Nat.lt_or_ge i k with h1 | h1
  · exact h i h1
  · obtain rfl : i = k := by omega
    exact h'
theorem all_nextL {α : Type} {l : List α} {p : α → Prop} {k : Nat} (hk : k < l.length) (h : ∀ i (hi : i < l.length), i < k → p l[i]) (h' : p l[k]) : ∀ i (hi : i < l.length), i < k + 1 → p l[i] := fun i hi hik => by
  rcases Nat.lt_or_ge i k with h1 | h1
  · exact h i hi h1
  · obtain rfl : i = k := by omega
    exact h'
theorem take_eq_next {α : Type} {a b : List α} {k : Nat} (ha : k < a.length) (hb : k < b.length) (h : a.take k = b.take k) (he : a[k] = b[k]) : a.take (k + 1) = b.take (k + 1) := by
  rw [List.take_succ_eq_append_getElem ha, List.take_succ_eq_append_getElem hb, h, he]
theorem get_mapA {α : Type} {l : List α} {f : α → List AV} {k : Nat} (h : k < l.length) : (l.map f)[k]? = some (f l[k]) := by simp [h]
end
end Go.Proofs.Ytgjpeldgjpgbcaa
