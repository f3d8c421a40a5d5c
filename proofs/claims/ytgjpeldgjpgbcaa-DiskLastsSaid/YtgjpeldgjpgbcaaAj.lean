/- Calls with objects: the call. No conditions. -/
import Derived.Test.YtgjpeldgjpgbcaaAi
namespace Go.Proofs.Ytgjpeldgjpgbcaa
set_option linter.unusedSimpArgs false
set_option linter.unusedVariables false
open Go.RowKit

def putT (KS : List Nat) : List TK → List Nat → List TK → List TK
  | st, k :: ks, tk :: os => putT KS (st.set k (renT KS tk)) ks os
  | st, _, _ => st
def subT (st : List TK) : List Nat → List TK → Prop
  | k :: ks, tk :: os => st[k]? = some tk ∧ subT st ks os
  | [], [] => True
  | _, _ => False
theorem subT_get {st : List TK} : ∀ (ks : List Nat) (os : List TK), subT st ks os → ks.length = os.length ∧ ∀ (i : Nat) (tk : TK), os[i]? = some tk → ∃ k, ks[i]? = some k ∧ st[k]? = some tk
  | [], [], _ => by simp
  | k :: ks, tk :: os, h => by
    obtain ⟨h1, h2⟩ := h
    obtain ⟨h3, h4⟩ := subT_get ks os h2
    refine ⟨by simp [h3], fun i tk' hi => ?_⟩
    cases i with
    | zero => simp at hi; subst hi; exact ⟨k, rfl, h1⟩
    | succ i => obtain ⟨k', h5, h6⟩ := h4 i tk' (by simpa using hi); exact ⟨k', by simpa using h5, h6⟩
  | [], _ :: _, h => h.elim
  | _ :: _, [], h => h.elim
theorem putT_get (KS : List Nat) : ∀ (ks : List Nat) (os st : List TK), ks.length = os.length → ks.Nodup → (∀ k ∈ ks, k < st.length) → (∀ (i : Nat) (tk : TK), os[i]? = some tk → ∃ k, ks[i]? = some k ∧ (putT KS st ks os)[k]? = some (renT KS tk)) ∧ ∀ k, k ∉ ks → (putT KS st ks os)[k]? = st[k]?
  | [], os, st, hl, _, _ => by
    have : os = [] := List.eq_nil_of_length_eq_zero (by simpa using hl.symm)
    subst this
    simp [putT]
  | k :: ks, [], st, hl, _, _ => by simp at hl
  | k :: ks, tk :: os, st, hl, hn, hlt => by
    obtain ⟨hn1, hn2⟩ := List.nodup_cons.1 hn
    obtain ⟨h1, h2⟩ := putT_get KS ks os (st.set k (renT KS tk)) (by simpa using hl) hn2 (fun j hj => by simpa using hlt j (List.mem_cons_of_mem _ hj))
    refine ⟨fun i tk' hi => ?_, fun j hj => ?_⟩
    · cases i with
      | zero =>
        simp at hi
        subst hi
        exact ⟨k, rfl, by rw [putT, h2 k hn1, List.getElem?_set_self (hlt k List.mem_cons_self)]⟩
      | succ i =>
        obtain ⟨k', h5, h6⟩ := h1 i tk' (by simpa using hi)
        exact ⟨k', by simpa using h5, h6⟩
    · have hj1 : j ≠ k := fun e => hj (e ▸ List.mem_cons_self)
      have hj2 : j ∉ ks := fun e => hj (List.mem_cons_of_mem _ e)
      rw [putT, h2 j hj2, List.getElem?_set_ne (fun e => hj1 e.symm)]
theorem idx_inj {ks : List Nat} (hn : ks.Nodup) {i j k : Nat} (hi : ks[i]? = some k) (hj : ks[j]? = some k) : i = j :=
  (List.getElem?_inj (List.getElem?_eq_some_iff.1 hi).1 hn).1 (hi.trans hj.symm)
theorem TkR.ren {ks : List Nat} {a b : TK} {l m : Nat × Nat} (h : TkR a l b m) : TkR (renT ks a) l (renT ks b) m := by
  rcases h with ⟨rfl, rfl⟩ | h | ⟨h1, h2⟩ | ⟨h1, h2, h3, h4⟩
  · exact .inl ⟨rfl, rfl⟩
  · exact .inr (.inl h)
  · exact .inr (.inr (.inl ⟨h1, by simp [renT, renC, h2]⟩))
  · exact .inr (.inr (.inr ⟨h1, h2, ren_isB.trans h3, ren_isB.trans h4⟩))
def nzA : AV → AV
  | .ag cs => .ag (cs.map nz)
  | x => nz x
theorem Rep.nzA {F : Nat → Prop} {ρ : Loc} {st : List TK} {w : World} {v : Value} {x : AV} (h : Rep F ρ st w v x) : Rep F ρ st w v (Go.Proofs.Ytgjpeldgjpgbcaa.nzA x) := by
  cases x with
  | ag cs =>
    obtain ⟨vs, rfl, h1, h2, h3⟩ := h.ag_inv
    refine .ag vs _ (by simpa using h1) h2 fun j v y hv hy => ?_
    rw [List.getElem?_map] at hy
    cases hc : cs[j]? with
    | none => rw [hc] at hy; cases hy
    | some z =>
      rw [hc] at hy
      injection hy with hy
      subst hy
      exact (h3 j v z hv hc).nz
  | _ => exact h.nz

section
variable {P : Program} {o : Oper} {t : List AV} {st : List TK}
open Classical in
theorem op_callo {K : AV → List TK → Prop} {f : FuncId} {xs : Array Operand} {Ts : Array TypeId} {ys : List AV} {os : List TK} {R : AV → List TK → Prop} (hC : ACo P f ys os R) (ho : o.op = .call { callee := .value (.func f), args := xs, argTypes := Ts }) (hok : callOk P f = true) (ks : List Nat) (hnd : ks.Nodup) (hsub : subT st ks (os.map (renT ks)))
    (hargs : xs.toList.map (fun x => nzA (evA t x)) = ys.map (ren1 ks)) (hoa : ys.all (ok1 os) = true) (hcl : cleanS os = true) (h : ∀ y os', R y os' → K (ren2 ks y) (putT ks st ks os')) : AOp P o t st K := fun F ρ w0 w a hs hm next Q hn => by
  unfold Oper.wp
  rw [run_call ho hok]
  obtain ⟨hlen, hget⟩ := subT_get _ _ hsub
  have hlen' : ks.length = os.length := by simpa using hlen
  obtain ⟨F', hF'⟩ : ∃ F' : Nat → Prop, F' = fun b => F b ∧ ∀ k tk, st[k]? = some tk → k ∉ ks → ¬ foot ρ k tk.c b := ⟨_, rfl⟩
  obtain ⟨ρx, hρx⟩ : ∃ ρx : Loc, ∀ i k, ks[i]? = some k → ρx i = ρ k := ⟨fun i => ρ (ks.getD i 0), fun i k hk => by simp [hk]⟩
  have hS : Sub ks ρx os ρ st := ⟨fun i tk hi => by
    obtain ⟨k, h1, h2⟩ := hget i (renT ks tk) (by rw [List.getElem?_map, hi]; rfl)
    exact ⟨k, h1, h2, (hρx i k h1).symm⟩⟩
  have hf1 : ∀ b, Free F ρ st b → Free F' ρx os b := fun b hb => ⟨by rw [hF']; exact ⟨hb.1, fun k tk hk _ hbk => hb.2 k tk hk hbk⟩, fun i tk hi hbk => by
    obtain ⟨k, h1, h2, h3⟩ := hS.tk i tk hi
    exact hb.2 k _ h2 ((ren_foot h3).2 hbk)⟩
  have hs1 : St F' ρx os ⟨w, ρx, os⟩ w :=
    { below := Bel.refl ⟨w, ρx, os⟩
      fresh := fun b hb => by rw [hF']; exact ⟨hs.fresh b hb, fun k tk hk _ hbk => by have := (hs.ge k tk b hk hbk).2; omega⟩
      box := fun i g ty cs hi => by
        obtain ⟨k, h1, h2, h3⟩ := hS.tk i _ hi
        obtain ⟨vs, g1, g2, g3, g4⟩ := hs.box k g ty (cs.map (ren0 ks)) h2
        rw [h3] at g1
        exact ⟨vs, g1, by simpa using g2, g3, fun j v x hv hx => back0 hS hf1 (clean_box hcl hi hx) (g4 j v _ hv (by rw [List.getElem?_map, hx]; rfl))⟩
      own := fun i g el sz xs hi => by
        obtain ⟨k, h1, h2, h3⟩ := hS.tk i _ hi
        obtain ⟨vs, g1, g2, g3, g4, g5⟩ := hs.own k g el sz xs h2
        rw [h3] at g1
        exact ⟨vs, g1, g2, g3, g4, fun i j cs v x a b c => (g5 i j cs v x a b c).mono fun b _ hb => hf1 b hb⟩
      obj := fun i g p hi => by
        obtain ⟨k, h1, h2, h3⟩ := hS.tk i _ hi
        have h4 := hs.obj k g p h2
        have e : foot ρ k (.obj p) = foot ρx i (.obj p) := by funext b; simp only [foot, h3]
        rw [h3, e] at h4
        exact p.stab h4 (Nat.le_refl _) (fun b hb => hf1 b (hs.free_new hb)) (fun b o hf ho => ⟨hf1 b hf, ho⟩) (fun _ _ => rfl)
      ge := fun i tk b hi hb => by
        obtain ⟨k, h1, h2, h3⟩ := hS.tk i tk hi
        have h4 := hs.ge k _ b h2 ((ren_foot h3).2 hb)
        refine ⟨⟨.inr ⟨i, tk, hi, hb⟩, ?_⟩, h4.2⟩
        rw [hF']
        exact ⟨h4.1.2, fun k' tk' hk' hnk hb' => hnk (by rw [hs.inj k' tk' k _ b hk' hb' h2 ((ren_foot h3).2 hb)]; exact List.mem_of_getElem? h1)⟩
      inj := fun i tk i' tk' b hi hb hi' hb' => by
        obtain ⟨k, h1, h2, h3⟩ := hS.tk i tk hi
        obtain ⟨k', h1', h2', h3'⟩ := hS.tk i' tk' hi'
        obtain rfl := hs.inj k _ k' _ b h2 ((ren_foot h3).2 hb) h2' ((ren_foot h3').2 hb')
        exact idx_inj hnd h1 h1'
      hist := fun k tk0 h => ⟨tk0, h, .inl ⟨rfl, rfl⟩⟩ }
  have hoa' : ∀ y ∈ ys, ok1 os y = true := by simpa using hoa
  have hsz : (xs.map a.eval).size = ys.length := by
    have := congrArg List.length hargs
    simpa using this
  have hrep : ∀ (j : Nat) v x, (xs.map a.eval)[j]? = some v → ys[j]? = some x → Rep F' ρx os w v x := fun j v y hv hy => by
    rw [Array.getElem?_map] at hv
    cases hx : xs[j]? with
    | none => rw [hx] at hv; cases hv
    | some x =>
      rw [hx] at hv
      injection hv with hv
      subst hv
      have h1 : (xs.toList.map (fun x => nzA (evA t x)))[j]? = some (nzA (evA t x)) := by rw [List.getElem?_map, Array.getElem?_toList, hx]; rfl
      rw [hargs, List.getElem?_map, hy] at h1
      injection h1 with h1
      refine back1 hS hf1 (hoa' y (List.mem_of_getElem? hy)) ?_
      rw [h1]
      exact (hm.ev x).nzA
  refine Calls.mono (hC F' ρx w (xs.map a.eval) hsz hs1 hrep) fun e w' ⟨v, y, ρ1, os', he, hs2, hl2, hc2, hok2, hr2, hR⟩ => ?_
  subst he
  have hklt : ∀ k ∈ ks, k < st.length := fun k hk => by
    obtain ⟨i, hi, rfl⟩ := List.getElem_of_mem hk
    obtain ⟨k', h1, h2, _⟩ := hS.tk i (os[i]'(by omega)) (List.getElem?_eq_getElem _)
    rw [List.getElem?_eq_getElem hi] at h1
    injection h1 with h1
    rw [h1]
    exact (List.getElem?_eq_some_iff.1 h2).1
  obtain ⟨hp1, hp2⟩ := putT_get ks ks os' st (by omega) hnd hklt
  obtain ⟨ρ2, hr1, hr3⟩ : ∃ ρ2 : Loc, (∀ i k, ks[i]? = some k → ρ2 k = ρ1 i) ∧ ∀ k, k ∉ ks → ρ2 k = ρ k := by
    refine ⟨fun k => if h : ∃ i, ks[i]? = some k then ρ1 (Classical.choose h) else ρ k, fun i k hk => ?_, fun k hk => ?_⟩
    · have hex : ∃ i, ks[i]? = some k := ⟨i, hk⟩
      simp only [dif_pos hex]
      rw [idx_inj hnd (Classical.choose_spec hex) hk]
    · have hex : ¬ ∃ i, ks[i]? = some k := fun ⟨i, hi⟩ => hk (List.mem_of_getElem? hi)
      simp only [dif_neg hex]
  have hS2 : Sub ks ρ1 os' ρ2 (putT ks st ks os') := ⟨fun i tk hi => by
    obtain ⟨k, h1, h2⟩ := hp1 i tk hi
    exact ⟨k, h1, h2, hr1 i k h1⟩⟩
  have hin : ∀ k, k ∈ ks → ∃ i tk tk0, ks[i]? = some k ∧ os'[i]? = some tk ∧ (putT ks st ks os')[k]? = some (renT ks tk) ∧ ρ2 k = ρ1 i ∧ os[i]? = some tk0 ∧ st[k]? = some (renT ks tk0) ∧ ρ k = ρx i := fun k hk => by
    obtain ⟨i, hi, rfl⟩ := List.getElem_of_mem hk
    have hki : ks[i]? = some ks[i] := List.getElem?_eq_getElem hi
    have h0 : os'[i]? = some (os'[i]'(by omega)) := List.getElem?_eq_getElem _
    have h00 : os[i]? = some (os[i]'(by omega)) := List.getElem?_eq_getElem _
    obtain ⟨k', h1, h2, h3⟩ := hS2.tk i _ h0
    obtain ⟨k2, g1, g2, g3⟩ := hS.tk i _ h00
    rw [hki] at h1 g1
    injection h1 with h1
    injection g1 with g1
    subst h1 g1
    exact ⟨i, _, _, hki, h0, h2, h3, h00, g2, g3⟩
  have hFb : ∀ b, F' b → F b ∧ ∀ k tk, st[k]? = some tk → k ∉ ks → ¬ foot ρ k tk.c b := fun b hb => by rw [hF'] at hb; exact hb
  have hf2 : ∀ b, Free F' ρ1 os' b → Free F ρ2 (putT ks st ks os') b := fun b hb => ⟨(hFb b hb.1).1, fun k tk hk hbk => by
    by_cases hkk : k ∈ ks
    · obtain ⟨i, tk', tk0, h1, h2, h3, h4, _⟩ := hin k hkk
      rw [hk] at h3
      injection h3 with h3
      subst h3
      exact hb.2 i tk' h2 ((ren_foot h4).1 hbk)
    · rw [hp2 k hkk] at hk
      exact (hFb b hb.1).2 k tk hk hkk ((foot_loc (hr3 k hkk)).1 hbk)⟩
  have hM : ∀ b, (⟨w, ρx, os⟩ : Bs).M b → ∃ k tk, k ∈ ks ∧ st[k]? = some tk ∧ foot ρ k tk.c b := fun b ⟨i, tk, h1, h2⟩ => by
    obtain ⟨k, g1, g2, g3⟩ := hS.tk i tk h1
    exact ⟨k, _, List.mem_of_getElem? g1, g2, (ren_foot g3).2 h2⟩
  have hkeep : ∀ b, b < w.heap.size → (∀ k tk, k ∈ ks → st[k]? = some tk → ¬ foot ρ k tk.c b) → w'.heap[b]? = w.heap[b]? := fun b hb hne => hs2.below.block b hb fun hm' => by
    obtain ⟨k, tk, h1, h2, h3⟩ := hM b hm'
    exact hne k tk h1 h2 h3
  have hmv : Mv F ρ st w ρ2 (putT ks st ks os') w' := by
    refine ⟨fun b ob hf ho => ⟨⟨hf.1, fun k tk hk hbk => ?_⟩, (hkeep b (Array.getElem?_eq_some_iff.1 ho).1 fun k tk _ hk hbk => hf.2 k tk hk hbk).trans ho⟩, fun k tk hk => ?_⟩
    · have hblt := (Array.getElem?_eq_some_iff.1 ho).1
      by_cases hkk : k ∈ ks
      · obtain ⟨i, tk', tk0, h1, h2, h3, h4, _⟩ := hin k hkk
        rw [hk] at h3
        injection h3 with h3
        subst h3
        rcases (hs2.ge i tk' b h2 ((ren_foot h4).1 hbk)).1.1 with h5 | h5
        · simp only [] at h5
          omega
        · obtain ⟨k2, tk2, g1, g2, g3⟩ := hM _ h5
          exact hf.2 k2 tk2 g2 g3
      · rw [hp2 k hkk] at hk
        exact hf.2 k tk hk ((foot_loc (hr3 k hkk)).1 hbk)
    · by_cases hkk : k ∈ ks
      · obtain ⟨i, tk', tk0, h1, h2, h3, h4, h5, h6, h7⟩ := hin k hkk
        obtain ⟨tk2, g1, g2⟩ := hs2.hist i tk0 h5
        rw [h2] at g1
        injection g1 with g1
        subst g1
        rw [hk] at h6
        injection h6 with h6
        subst h6
        refine ⟨_, h3, ?_⟩
        rw [h4, h7]
        exact TkR.ren g2
      · exact ⟨tk, by rw [hp2 k hkk]; exact hk, .inl ⟨rfl, hr3 k hkk⟩⟩
  have hs3 : St F ρ2 (putT ks st ks os') w0 w' :=
    { below := ⟨hs2.below.os.trans hs.below.os, hs2.below.tape.trans hs.below.tape, hs2.below.output.trans hs.below.output, Nat.le_trans hs.below.size hs2.below.size, fun b hb hM' => (hkeep b (Nat.lt_of_lt_of_le hb hs.below.size) fun k tk _ hk hbk => by
        rcases (hs.ge k tk b hk hbk).1.1 with h1 | h1
        · omega
        · exact hM' h1).trans (hs.below.block b hb hM')⟩
      fresh := fun b hb => (hFb b (hs2.fresh b hb)).1
      box := fun k g ty cs hk => by
        by_cases hkk : k ∈ ks
        · obtain ⟨i, tk', tk0, h1, h2, h3, h4, _⟩ := hin k hkk
          rw [hk] at h3
          injection h3 with h3
          obtain ⟨g', c'⟩ := tk'
          cases c' with
          | box ty' cs' =>
            simp only [renT, renC] at h3
            injection h3 with e1 e2
            injection e2 with e3 e4
            subst e1 e3 e4
            obtain ⟨vs, g1, g2, g3, g4⟩ := hs2.box i _ _ cs' h2
            rw [h4]
            refine ⟨vs, g1, by simpa using g2, g3, fun j v x hv hx => ?_⟩
            rw [List.getElem?_map] at hx
            cases hc : cs'[j]? with
            | none => rw [hc] at hx; cases hx
            | some z =>
              rw [hc] at hx
              injection hx with hx
              subst hx
              exact on0 hS2 hf2 (clean_box hc2 h2 hc) (g4 j v z hv hc)
          | _ => simp only [renT, renC] at h3; injection h3 with _ e2; cases e2
        · rw [hp2 k hkk] at hk
          rw [hr3 k hkk]
          obtain ⟨vs, g1, g2, g3, g4⟩ := hs.box k g ty cs hk
          exact ⟨vs, (hkeep _ (Array.getElem?_eq_some_iff.1 g1).1 fun k' tk' hk1 hk2 hb' => hkk (hs.inj k' tk' k _ _ hk2 hb' hk rfl ▸ hk1)).trans g1, g2, g3, fun j v x hv hx => (g4 j v x hv hx).mv hmv⟩
      own := fun k g el sz xs hk => by
        by_cases hkk : k ∈ ks
        · obtain ⟨i, tk', tk0, h1, h2, h3, h4, _⟩ := hin k hkk
          rw [hk] at h3
          injection h3 with h3
          obtain ⟨g', c'⟩ := tk'
          cases c' with
          | own el' sz' xs' =>
            simp only [renT, renC] at h3
            injection h3 with e1 e2
            injection e2 with e3 e4 e5
            subst e1 e3 e4 e5
            obtain ⟨vs, g1, g2, g3, g4, g5⟩ := hs2.own i _ _ _ _ h2
            rw [h4]
            exact ⟨vs, g1, g2, g3, g4, fun i j cs v x a b c => (g5 i j cs v x a b c).mono fun b _ hb => hf2 b hb⟩
          | _ => simp only [renT, renC] at h3; injection h3 with _ e2; cases e2
        · rw [hp2 k hkk] at hk
          rw [hr3 k hkk]
          obtain ⟨vs, g1, g2, g3, g4, g5⟩ := hs.own k g el sz xs hk
          exact ⟨vs, own_keep' g1 fun g' hg => by injection hg with hg; subst hg; exact hkeep _ (hs.geB k _ hk (by simp)).2 fun k' tk' hk1 hk2 hb' => hkk (hs.inj k' tk' k _ _ hk2 hb' hk rfl ▸ hk1), g2, g3, g4, fun i j cs v x a b c => (g5 i j cs v x a b c).mv hmv.free⟩
      obj := fun k g p hk => by
        by_cases hkk : k ∈ ks
        · obtain ⟨i, tk', tk0, h1, h2, h3, h4, _⟩ := hin k hkk
          rw [hk] at h3
          injection h3 with h3
          obtain ⟨g', c'⟩ := tk'
          cases c' with
          | obj p' =>
            simp only [renT, renC] at h3
            injection h3 with e1 e2
            injection e2 with e3
            subst e1 e3
            have h5 := hs2.obj i _ p h2
            have e : foot ρ2 k (.obj p) = foot ρ1 i (.obj p) := by funext b; simp only [foot, h4]
            rw [h4, e]
            exact p.stab h5 (Nat.le_refl _) (fun b hb => hf2 b (hs2.free_new hb)) (fun b o hf ho => ⟨hf2 b hf, ho⟩) (fun _ _ => rfl)
          | _ => simp only [renT, renC] at h3; injection h3 with _ e2; cases e2
        · have hk' := hk
          rw [hp2 k hkk] at hk
          have h5 := hs.obj k g p hk
          have e : foot ρ2 k (.obj p) = foot ρ k (.obj p) := by funext b; exact propext (foot_loc (hr3 k hkk))
          rw [hr3 k hkk, e]
          exact p.stab h5 hs2.below.size (fun b hb => hf2 b (hs2.free_new hb)) hmv.free (fun b hf => hkeep b (hs.ge k _ b hk hf).2 fun k' tk' hk1 hk2 hb' => hkk (hs.inj k' tk' k _ b hk2 hb' hk hf ▸ hk1))
      ge := fun k tk b hk hbk => by
        by_cases hkk : k ∈ ks
        · obtain ⟨i, tk', tk0, h1, h2, h3, h4, _⟩ := hin k hkk
          rw [hk] at h3
          injection h3 with h3
          subst h3
          have h5 := hs2.ge i tk' b h2 ((ren_foot h4).1 hbk)
          refine ⟨⟨?_, (hFb _ h5.1.2).1⟩, h5.2⟩
          rcases h5.1.1 with h6 | h6
          · exact .inl (Nat.le_trans hs.below.size h6)
          · obtain ⟨k2, tk2, g1, g2, g3⟩ := hM _ h6
            exact (hs.ge k2 tk2 b g2 g3).1.1
        · rw [hp2 k hkk] at hk
          have := hs.ge k tk b hk ((foot_loc (hr3 k hkk)).1 hbk)
          exact ⟨this.1, Nat.lt_of_lt_of_le this.2 hs2.below.size⟩
      inj := fun k tk k' tk' b hk hbk hk' hbk' => by
        by_cases hkk : k ∈ ks
        · obtain ⟨i, tk1, tk0, h1, h2, h3, h4, _⟩ := hin k hkk
          rw [hk] at h3
          injection h3 with h3
          subst h3
          by_cases hkk' : k' ∈ ks
          · obtain ⟨i', tk1', tk0', h1', h2', h3', h4', _⟩ := hin k' hkk'
            rw [hk'] at h3'
            injection h3' with h3'
            subst h3'
            obtain rfl := hs2.inj i tk1 i' tk1' b h2 ((ren_foot h4).1 hbk) h2' ((ren_foot h4').1 hbk')
            rw [h1] at h1'
            injection h1'
          · rw [hp2 k' hkk'] at hk'
            exact absurd ((foot_loc (hr3 k' hkk')).1 hbk') ((hFb _ (hs2.ge i tk1 b h2 ((ren_foot h4).1 hbk)).1.2).2 k' tk' hk' hkk')
        · rw [hp2 k hkk] at hk
          by_cases hkk' : k' ∈ ks
          · obtain ⟨i', tk1', tk0', h1', h2', h3', h4', _⟩ := hin k' hkk'
            rw [hk'] at h3'
            injection h3' with h3'
            subst h3'
            exact absurd ((foot_loc (hr3 k hkk)).1 hbk) ((hFb _ (hs2.ge i' tk1' b h2' ((ren_foot h4').1 hbk')).1.2).2 k tk hk hkk)
          · rw [hp2 k' hkk'] at hk'
            exact hs.inj k tk k' tk' b hk ((foot_loc (hr3 k hkk)).1 hbk) hk' ((foot_loc (hr3 k' hkk')).1 hbk')
      hist := hist_mv hs.hist hmv }
  exact hn v w' ρ2 _ _ hs3 hmv (on2 hS2 hf2 hok2 hr2) (h y os' hR)
end
end Go.Proofs.Ytgjpeldgjpgbcaa
