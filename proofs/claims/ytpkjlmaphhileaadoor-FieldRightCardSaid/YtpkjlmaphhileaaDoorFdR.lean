/- The law FieldRight, walked over abstract states: a field's own copy in raw memory. No conditions. -/
import Derived.Test.YtpkjlmaphhileaaDoorBor
import Derived.Test.YtpkjlmaphhileaaDoorFdA
import Derived.Test.YtpkjlmaphhileaaDoorSchA
import Derived.Test.YtpkjlmaphhileaaDoorOpF
import Derived.Test.YtpkjlmaphhileaaDoorCut
namespace Go.Proofs.YtpkjlmaphhileaaDoor
set_option linter.unusedSimpArgs false
set_option linter.unusedVariables false
set_option maxRecDepth 100000
set_option maxRecDepth 100000
open Go.RowKit

section
variable {P : Program} {o : Oper} {t : List AV} {st : List TK} {x : Operand} {G q : Nat} {M : RM}
/-- A cell that is lent. -/
def LentZ (st : List TK) (z y : AV) : Prop := ∀ F ρ w0 w u, St F ρ st w0 w → Rep F ρ st w u z → RepS (fun _ => True) w u y
theorem LentZ.sc (v : Value) : LentZ st (.sc v) (.sc v) := fun F ρ w0 w u hs h => by
  rw [h.of_sc]; exact .sc v
theorem LentZ.sl (xs : List (List AV)) : LentZ st (.sl xs) (.sl xs) := fun F ρ w0 w u hs h => h.sl_s.mono fun _ _ _ => trivial
theorem LentZ.raw (q : Nat) {v : Value} {y : AV} (hq : st[q]? = some ⟨G, .obj (RawP M)⟩) (hr : RawS M v y) : LentZ st (.sc v) y := fun F ρ w0 w u hs h => by
  rw [h.of_sc]; exact hr.rep hs hq
inductive LentL (st : List TK) : List AV → List AV → Prop
  | nil : LentL st [] []
  | cons {z y : AV} {l m : List AV} (h : LentZ st z y) (t : LentL st l m) : LentL st (z :: l) (y :: m)
theorem LentL.len {l m : List AV} (h : LentL st l m) : l.length = m.length := by
  induction h with
  | nil => rfl
  | cons _ _ ih => simp [ih]
theorem LentL.get {l m : List AV} (h : LentL st l m) : ∀ {j : Nat} {y : AV}, m[j]? = some y → ∃ z, l[j]? = some z ∧ LentZ st z y := by
  induction h with
  | nil => intro j y hj; cases hj
  | cons h _ ih =>
    intro j y hj
    cases j with
    | zero => injection hj with hj; subst hj; exact ⟨_, rfl, h⟩
    | succ j => exact ih hj
theorem BArg.ag {zs ys : List AV} (h : evA t x = .ag zs) (hz : LentL st zs ys) : BArg t st x (.ag ys) := fun F ρ w0 w a hs hm => by
  have h0 := hm.ev x
  rw [h] at h0
  generalize a.eval x = v at h0
  have fin : ∀ vs : Array Value, vs.size = zs.length → (∀ v ∈ vs, v.oneCell' = true) → (∀ (j : Nat) v z, vs[j]? = some v → zs[j]? = some z → Rep F ρ st w v z) → RepS (fun _ => True) w (.agg vs) (.ag ys) := fun vs h1 h2 h3 =>
    .ag vs ys (h1.trans hz.len) h2 fun j v y hv hy => by
      obtain ⟨z, k1, k2⟩ := hz.get hy
      exact k2 F ρ w0 w v hs (h3 j v z hv k1)
  cases h0 with
  | s h' =>
    cases h' with
    | ag vs _ h1 h2 h3 => exact fin vs h1 h2 fun j v z hv hz' => .s (h3 j v z hv hz')
  | ag vs _ h1 h2 h3 => exact fin vs h1 h2 h3
end

def fitsB (f : FldD) (s : Bytes) : Bool := rightF f && (if f.kind = 2 ∨ f.kind = 4 then decide (s.length ≤ 40) else if f.kind = 3 then f.cases.contains s else false)
theorem fits_c (f : FldD) (s : Bytes) : AC Tryd.prog 19 [f.av, AS s] (fun x => x = .s (AB (fitsB f s))) := by
  change AC _ _ [.ag [AI f.at_.scope, AS f.at_.group, AS f.at_.name, AI f.kind, AS f.dflt, .sl (csS f.cases), AI f.worth], AS s] _
  refine AC.of' 19 1 Tryd.func19 rfl ?_
  change AW _ _ _ _ [TK.mk 0 .off]
  refine AW.seq ?_
  refine AW.region ?_
  refine AL.op rfl (AOpB.op (op_box 0 rfl rfl rfl rfl rfl ?_))
  refine AL.n ?_
  refine AL.ra ?_
  refine AL.nil ?_
  change AW _ _ _ _ _
  refine AW.seq ?_
  refine AW.seq ?_
  refine AW.region ?_
  refine AL.r (rd_loadN_bx rfl ag_37 rfl rfl (Nat.le_of_ble_eq_true rfl) rfl) ?_
  refine AL.op rfl (AOpB.op (op_call (right_c f) rfl (by kernel_rfl) rfl (none) ?_))
  rintro r rfl
  refine AL.n ?_
  refine AL.r (rd_un rfl rfl (fun _ => rfl)) ?_
  refine AL.nil ?_
  change AW _ _ _ _ _
  refine AW.cd rfl (fun h7 => ?_) (fun h7 => ?_)
  ·skip
   refine AW.seq ?_
   refine AW.region ?_
   refine AL.ra ?_
   refine AL.nil ?_
   change AW _ _ _ _ _
   refine AW.ret ?_
   change ResA _ _ _ _ _
   refine res1 rfl (ResV.tmp rfl) rfl ?_
   simp_all [fitsB]
  ·skip
   refine AW.skip ?_
   change AW _ _ _ _ _
   refine AW.seq ?_
   refine AW.seq ?_
   refine AW.region ?_
   refine AL.r (rd_faddr_bx rfl fo_37_1 rfl rfl ⟨_, _, rfl⟩) ?_
   refine AL.r (rd_load_bx rfl ag_3 rfl rfl rfl) ?_
   refine AL.nil ?_
   change AW _ _ _ _ _
   refine AW.block ?_
   refine AW.seq ?_
   refine AW.seq ?_
   refine AW.region ?_
   refine AL.r (rd_bin rfl rfl rfl (fun _ => rfl)) ?_
   refine AL.ra ?_
   refine AL.nil ?_
   change AW _ _ _ _ _
   refine AW.cd rfl (fun h10 => ?_) (fun h10 => ?_)
   ·skip
    refine AW.skip ?_
    change AW _ _ _ _ _
    refine AW.cd rfl (fun h10 => ?_) (fun h10 => ?_)
    ·skip
     refine AW.seq ?_
     refine AW.region ?_
     refine AL.rm ?_
     refine AL.op rfl (AOpB.op (op_call (text_c _) rfl (by kernel_rfl) rfl (none) ?_))
     rintro r rfl
     refine AL.n ?_
     refine AL.ra ?_
     refine AL.nil ?_
     change AW _ _ _ _ _
     refine AW.ret ?_
     change ResA _ _ _ _ _
     refine res1 rfl (ResV.tmp rfl) rfl ?_
     simp_all [fitsB]
    ·skip
     refine AW.seq ?_
     refine AW.region ?_
     refine AL.r (rd_bin rfl rfl rfl (fun _ => rfl)) ?_
     refine AL.ra ?_
     refine AL.nil ?_
     change AW _ _ _ _ _
     refine AW.cd rfl (fun h15 => ?_) (fun h15 => ?_)
     ·skip
      refine AW.seq ?_
      refine AW.region ?_
      refine AL.r (rd_faddr_bx rfl fo_37_3 rfl rfl ⟨_, _, rfl⟩) ?_
      refine AL.r (rd_load_bx rfl ag_35 rfl rfl rfl) ?_
      refine AL.rm ?_
      refine AL.op rfl (AOpB.op (op_call (contains_c _ _) rfl (by kernel_rfl) rfl (none) ?_))
      rintro r rfl
      refine AL.n ?_
      refine AL.ra ?_
      refine AL.nil ?_
      change AW _ _ _ _ _
      refine AW.ret ?_
      change ResA _ _ _ _ _
      refine res1 rfl (ResV.tmp rfl) rfl ?_
      simp_all [fitsB]
     ·skip
      refine AW.skip ?_
      change AW _ _ _ _ _
      refine AW.seq ?_
      refine AW.region ?_
      refine AL.ra ?_
      refine AL.nil ?_
      change AW _ _ _ _ _
      refine AW.ret ?_
      change ResA _ _ _ _ _
      refine res1 rfl (ResV.tmp rfl) rfl ?_
      simp_all [fitsB]
   ·skip
    refine AW.region ?_
    refine AL.r (rd_bin rfl rfl rfl (fun _ => rfl)) ?_
    refine AL.ra ?_
    refine AL.nil ?_
    change AW _ _ _ _ _
    refine AW.cd rfl (fun h10 => ?_) (fun h10 => ?_)
    ·skip
     refine AW.seq ?_
     refine AW.region ?_
     refine AL.rm ?_
     refine AL.op rfl (AOpB.op (op_call (text_c _) rfl (by kernel_rfl) rfl (none) ?_))
     rintro r rfl
     refine AL.n ?_
     refine AL.ra ?_
     refine AL.nil ?_
     change AW _ _ _ _ _
     refine AW.ret ?_
     change ResA _ _ _ _ _
     refine res1 rfl (ResV.tmp rfl) rfl ?_
     simp_all [fitsB]
    ·skip
     refine AW.seq ?_
     refine AW.region ?_
     refine AL.r (rd_bin rfl rfl rfl (fun _ => rfl)) ?_
     refine AL.ra ?_
     refine AL.nil ?_
     change AW _ _ _ _ _
     refine AW.cd rfl (fun h15 => ?_) (fun h15 => ?_)
     ·skip
      refine AW.seq ?_
      refine AW.region ?_
      refine AL.r (rd_faddr_bx rfl fo_37_3 rfl rfl ⟨_, _, rfl⟩) ?_
      refine AL.r (rd_load_bx rfl ag_35 rfl rfl rfl) ?_
      refine AL.rm ?_
      refine AL.op rfl (AOpB.op (op_call (contains_c _ _) rfl (by kernel_rfl) rfl (none) ?_))
      rintro r rfl
      refine AL.n ?_
      refine AL.ra ?_
      refine AL.nil ?_
      change AW _ _ _ _ _
      refine AW.ret ?_
      change ResA _ _ _ _ _
      refine res1 rfl (ResV.tmp rfl) rfl ?_
      simp_all [fitsB]
     ·skip
      refine AW.skip ?_
      change AW _ _ _ _ _
      refine AW.seq ?_
      refine AW.region ?_
      refine AL.ra ?_
      refine AL.nil ?_
      change AW _ _ _ _ _
      refine AW.ret ?_
      change ResA _ _ _ _ _
      refine res1 rfl (ResV.tmp rfl) rfl ?_
      simp_all [fitsB]
theorem right_kind {f : FldD} (h : rightF f = true) : f.kind = 1 ∨ f.kind = 2 ∨ f.kind = 3 ∨ f.kind = 4 := by
  unfold rightF at h
  by_cases h1 : f.kind = 1
  · exact .inl h1
  · by_cases h2 : f.kind = 2
    · exact .inr (.inl h2)
    · by_cases h3 : f.kind = 3
      · exact .inr (.inr (.inl h3))
      · by_cases h4 : f.kind = 4
        · exact .inr (.inr (.inr h4))
        · simp [h1, h2, h3, h4] at h
theorem rfits_c (f : FldD) (s : Bytes) (hl : f.cases.length ≤ 1000000) : AC Tryd.prog 20 [f.av, AS s] (fun x => x = .s (AB (fitsB f s))) := by
  change AC _ _ [.ag [AI f.at_.scope, AS f.at_.group, AS f.at_.name, AI f.kind, AS f.dflt, .sl (csS f.cases), AI f.worth], AS s] _
  refine AC.of' 21 1 Tryd.func20 rfl ?_
  change AW _ _ _ _ [TK.mk 0 .off]
  refine AW.seq ?_
  refine AW.region ?_
  refine AL.op rfl (AOpB.op (op_box 0 rfl rfl rfl rfl rfl ?_))
  refine AL.n ?_
  refine AL.ra ?_
  refine AL.nil ?_
  change AW _ _ _ _ _
  refine AW.seq ?_
  refine AW.seq ?_
  refine AW.region ?_
  refine AL.r (rd_loadN_bx rfl ag_37 rfl rfl (Nat.le_of_ble_eq_true rfl) rfl) ?_
  refine AL.op rfl (AOpB.op (op_call (rright13 f (by omega)) rfl (by kernel_rfl) rfl (none) ?_))
  rintro r rfl
  refine AL.n ?_
  refine AL.r (rd_un rfl rfl (fun _ => rfl)) ?_
  refine AL.rm ?_
  refine AL.fk (d := 8) rfl (fun h8 => ?_) (fun h8 => ?_)
  ·skip
   refine AL.n ?_
   refine AL.rf ?_
   refine AL.rf ?_
   refine AL.rf ?_
   refine AL.r (rd_pick_t rfl rfl rfl) ?_
   refine AL.nil ?_
   change AW _ _ _ _ _
   refine AW.cond_t rfl ?_
   refine AW.seq ?_
   refine AW.region ?_
   refine AL.ra ?_
   refine AL.nil ?_
   change AW _ _ _ _ _
   refine AW.ret ?_
   change ResA _ _ _ _ _
   refine res1 rfl (ResV.tmp rfl) rfl ?_
   (have hk := @right_kind f; simp_all [fitsB] <;> omega)
  ·skip
   refine AL.n ?_
   refine AL.ro (rd_faddr_bx rfl fo_37_1 rfl rfl ⟨_, _, rfl⟩) ?_
   refine AL.ro (rd_load_bx rfl ag_3 rfl rfl rfl) ?_
   refine AL.ro (rd_bin rfl rfl rfl (fun _ => rfl)) ?_
   refine AL.r (rd_pick_f rfl rfl rfl) ?_
   refine AL.nil ?_
   change AW _ _ _ _ _
   refine AW.cd rfl (fun h12 => ?_) (fun h12 => ?_)
   ·skip
    refine AW.seq ?_
    refine AW.region ?_
    refine AL.ra ?_
    refine AL.nil ?_
    change AW _ _ _ _ _
    refine AW.ret ?_
    change ResA _ _ _ _ _
    refine res1 rfl (ResV.tmp rfl) rfl ?_
    (have hk := @right_kind f; simp_all [fitsB] <;> omega)
   ·skip
    refine AW.skip ?_
    change AW _ _ _ _ _
    refine AW.seq ?_
    refine AW.seq ?_
    refine AW.region ?_
    refine AL.r (rd_faddr_bx rfl fo_37_1 rfl rfl ⟨_, _, rfl⟩) ?_
    refine AL.r (rd_load_bx rfl ag_3 rfl rfl rfl) ?_
    refine AL.r (rd_bin rfl rfl rfl (fun _ => rfl)) ?_
    refine AL.nil ?_
    change AW _ _ _ _ _
    refine AW.cd rfl (fun h15 => ?_) (fun h15 => ?_)
    ·skip
     refine AW.seq ?_
     refine AW.region ?_
     refine AL.r (rd_faddr_bx rfl fo_37_3 rfl rfl ⟨_, _, rfl⟩) ?_
     refine AL.r (rd_load_bx rfl ag_35 rfl rfl rfl) ?_
     refine AL.rm ?_
     refine AL.op rfl (AOpB.op (op_call (has_c _ _ (by omega)) rfl (by kernel_rfl) rfl (none) ?_))
     rintro r rfl
     refine AL.n ?_
     refine AL.ra ?_
     refine AL.nil ?_
     change AW _ _ _ _ _
     refine AW.ret ?_
     change ResA _ _ _ _ _
     refine res1 rfl (ResV.tmp rfl) rfl ?_
     (have hk := @right_kind f; simp_all [fitsB] <;> omega)
    ·skip
     refine AW.skip ?_
     change AW _ _ _ _ _
     refine AW.seq ?_
     refine AW.region ?_
     refine AL.rm ?_
     refine AL.r (rd_len_str rfl str_9 rfl) ?_
     refine AL.r (rd_bin rfl rfl rfl (fun _ => rfl)) ?_
     refine AL.ra ?_
     refine AL.nil ?_
     change AW _ _ _ _ _
     refine AW.ret ?_
     change ResA _ _ _ _ _
     refine res1 rfl (ResV.tmp rfl) rfl ?_
     (have hk := @right_kind f; simp_all [fitsB] <;> omega)
theorem fits_case {f : FldD} {k : Nat} (hk : k < f.cases.length) : fitsB f f.cases[k] = rightF f := by
  unfold fitsB
  cases h : rightF f with
  | false => rfl
  | true =>
    have hc : f.cases.contains f.cases[k] = true := List.contains_iff_mem.2 (List.getElem_mem hk)
    have hne : f.cases ≠ [] := fun e => by rw [e] at hk; simp at hk
    unfold rightF at h
    simp only [Bool.and_eq_true] at h
    have h := h.2
    split at h
    · simp_all
    · split at h
      · simp_all
      · split at h
        · rename_i h3
          simp [h3, hc]
        · split at h
          · simp_all
          · cases h
theorem csS_ne2 {l : List Bytes} (h : l ≠ []) : csS l ≠ [] := by simpa [csS] using h
theorem fown_pos {vs : Array Value} {c : Nat} {l : List Bytes} (hs : vs.size = c * 1) (hl : (csS l).length ≤ c) (hp : 0 < l.length) : 0 < vs.size := by rw [csS_len] at hl; omega
theorem fown_raw {M : RM} {b c : Nat} {vs : Array Value} {l : List Bytes} (hm : c ≤ maxLen) (hl : (csS l).length ≤ c) (hp : 0 < l.length) (hc : ∀ (i : Nat) (cs : List AV) (j : Nat) (u : Value), (csS l)[i]? = some cs → cs[j]? = some (.sc u) → vs[i * 1 + j]? = some u) : RawS (M.set b (9, vs)) (.slice (some ⟨b, 0, none⟩) l.length c) (.sl (csS l)) := by
  rw [csS_len] at hl
  have key : ∀ (i : Nat) (cs : List AV), (csS l)[i]? = some cs → cs = [AS (l.getD i [])] ∧ i < l.length := fun i cs h => by
    unfold csS at h
    rw [List.getElem?_map] at h
    cases e : l[i]? with
    | none => rw [e] at h; cases h
    | some s =>
      rw [e] at h
      injection h with h
      exact ⟨by rw [← h, List.getD_eq_getElem?_getD, e]; rfl, (List.getElem?_eq_some_iff.1 e).1⟩
  refine .sl1 b l.length c 1 _ vs (csS l) (fun i _ => sv (l.getD i [])) (csS_len l) hp hl hm (by decide) (RM.set_self _ _ _) (fun i cs h => by rw [(key i cs h).1]; rfl) (fun i j hi hj => ?_) (fun _ _ => rfl) (fun i j cs x h1 h2 => ?_)
  · obtain rfl : j = 0 := by omega
    have hx : (csS l)[i]? = some [AS (l.getD i [])] := by
      unfold csS
      rw [List.getElem?_map, List.getElem?_eq_getElem hi, List.getD_eq_getElem?_getD, List.getElem?_eq_getElem hi]; rfl
    exact hc i _ 0 _ hx rfl
  · obtain ⟨rfl, _⟩ := key i cs h1
    match j with
    | 0 => injection h2 with h2; subst h2; exact .sc _
    | j + 1 => cases h2
/-- An own copy in raw memory. -/
theorem fown_x (G : Nat) (M : RM) (f : FldD) (hc : f.cases.length ≤ 1000000) (hne : f.cases ≠ []) : ACo Tryd.prog 23 [f.av] [⟨G, .obj (RawP M)⟩] (fun y os' => ∃ b c vs M', y = .ag [AI f.at_.scope, AS f.at_.group, AS f.at_.name, AI f.kind, AS f.dflt, .sc (.slice (some ⟨b, 0, none⟩) f.cases.length c), AI f.worth] ∧ os' = [⟨G, .obj (RawP M')⟩] ∧ M' b = some (9, vs) ∧ 0 < vs.size ∧ RawS M' (.slice (some ⟨b, 0, none⟩) f.cases.length c) (.sl (csS f.cases))) := by
  have hpos : 0 < f.cases.length := List.length_pos_iff.2 hne
  have hcn : csS f.cases ≠ [] := csS_ne2 hne
  refine ACo.of' (st0 := [⟨G, .obj (RawP M)⟩, TK.mk 0 .off, TK.mk 0 .off, TK.mk 0 .off]) 7 3 Tryd.func23 rfl 1 ?_
  refine AW.seq ?_
  refine AW.region ?_
  refine AL.op rfl (AOpB.op (op_box 1 rfl rfl rfl rfl rfl ?_))
  refine AL.no ?_
  refine AL.op rfl (AOpB.op (op_alloc 2 rfl ze_37 rfl ?_))
  refine AL.no ?_
  refine AL.nil ?_
  change AW _ _ _ _ _
  refine AW.seq ?_
  refine AW.region ?_
  refine AL.r (rd_faddr_bx rfl fo_37_3 rfl rfl ⟨_, _, rfl⟩) ?_
  refine AL.r (rd_load_bx rfl ag_35 rfl rfl rfl) ?_
  refine AL.op rfl (AOpB.op (op_append0 3 rfl ap_35 (.inr rfl) rfl (src_s rfl) (by first | (simp; done) | exact csS_ne | assumption) (by simp only [csS_len, List.length_cons]; omega) (by simp only [csS_len, List.length_cons]; omega) ?_))
  refine AL.no ?_
  refine AL.own_raw (q := 0) 5 rfl rfl rfl ?_
  intro b c vs hbb hmb hsb hlb hnb hcb hzb
  refine AL.no ?_
  refine AL.r (rd_faddr_bx rfl fo_37_3 rfl rfl ⟨_, _, rfl⟩) ?_
  refine AL.op rfl (op_store_ rfl rfl rfl rfl rfl sz_35 ?_)
  refine AL.no ?_
  refine AL.nil ?_
  change AW _ _ _ _ _
  refine AW.seq ?_
  refine AW.region ?_
  refine AL.r (rd_loadN_bx rfl ag_37 rfl rfl (Nat.le_of_ble_eq_true rfl) rfl) ?_
  refine AL.op rfl (op_store_ rfl rfl rfl rfl rfl sz_37 ?_)
  refine AL.no ?_
  refine AL.nil ?_
  change AW _ _ _ _ _
  refine AW.ret ?_
  repeat with_reducible first | refine thenA_ret ?_ | refine inBlockA_ret ?_
  with_reducible first | refine retO_ret ?_ | refine retO_normal ?_
  refine reso1S rfl (ResV.cells rfl rfl ag_37 (Nat.le_of_ble_eq_true rfl) rfl) rfl ?_
  exact ⟨b, c, vs, _, by rfl, rfl, RM.set_self _ _ _, fown_pos hsb hlb hpos, fown_raw hmb hlb hpos hcb⟩
set_option maxHeartbeats 4000000 in
theorem fright_0 (f g : FldD) (s : Bytes) (hnil : f.cases = []) : AC Tryd.prog 5 [f.av, g.av, AS s] (fun x => x = .s (AB true)) := by
  change AC _ _ [.ag [AI f.at_.scope, AS f.at_.group, AS f.at_.name, AI f.kind, AS f.dflt, .sl (csS f.cases), AI f.worth], .ag [AI g.at_.scope, AS g.at_.group, AS g.at_.name, AI g.kind, AS g.dflt, .sl (csS g.cases), AI g.worth], AS s] _
  refine AC.of' 85 4 Tryd.func5 rfl ?_
  change AW _ _ _ _ [TK.mk 0 .off, TK.mk 0 .off, TK.mk 0 .off, TK.mk 0 .off]
  refine AW.seq ?_
  refine AW.region ?_
  refine AL.op rfl (AOpB.op (op_box 1 rfl rfl rfl rfl rfl ?_))
  refine AL.no ?_
  refine AL.op rfl (AOpB.op (op_box 2 rfl rfl rfl rfl rfl ?_))
  refine AL.no ?_
  refine AL.ra ?_
  refine AL.nil ?_
  change AW _ _ _ _ _
  refine AW.seq ?_
  refine AW.seq ?_
  refine AW.region ?_
  refine AL.op rfl (AOpB.op (op_call (awake_c) rfl (by kernel_rfl) rfl (none) ?_))
  rintro r rfl
  refine AL.no ?_
  refine AL.r (rd_un rfl rfl (fun _ => rfl)) ?_
  refine AL.nil ?_
  change AW _ _ _ _ _
  refine AW.cond_f rfl ?_
  refine AW.skip ?_
  change AW _ _ _ _ _
  refine AW.seq ?_
  refine AW.seq ?_
  refine AW.region ?_
  refine AL.r (rd_loadN_bx rfl ag_37 rfl rfl (Nat.le_of_ble_eq_true rfl) rfl) ?_
  refine AL.op rfl (AOpB.op (op_call (rheavy_c f) rfl (by kernel_rfl) rfl (none) ?_))
  rintro r rfl
  refine AL.no ?_
  refine AL.rm ?_
  refine AL.fk (d := 14) rfl (fun h14 => ?_) (fun h14 => ?_)
  ·skip
   refine AL.n ?_
   refine AL.rf ?_
   refine AL.rf ?_
   refine AL.r (rd_pick_t rfl rfl rfl) ?_
   refine AL.rm ?_
   refine AL.rf ?_
   refine AL.rf ?_
   refine AL.rf ?_
   refine AL.r (rd_pick_t rfl rfl rfl) ?_
   refine AL.nil ?_
   change AW _ _ _ _ _
   refine AW.cond_t rfl ?_
   refine AW.seq ?_
   refine AW.region ?_
   refine AL.ra ?_
   refine AL.nil ?_
   change AW _ _ _ _ _
   refine AW.ret ?_
   change ResA _ _ _ _ _
   refine res1 rfl (ResV.tmp rfl) rfl ?_
   first | rfl | (simp_all; done)
  ·skip
   refine AL.n ?_
   refine AL.ro (rd_loadN_bx rfl ag_37 rfl rfl (Nat.le_of_ble_eq_true rfl) rfl) ?_
   refine AL.on rfl rfl rfl (AOpB.op (op_call (rheavy_c g) rfl (by kernel_rfl) rfl (none) ?_))
   rintro r rfl
   refine AL.no ?_
   refine AL.r (rd_pick_f rfl rfl rfl) ?_
   refine AL.rm ?_
   refine AL.fk (d := 18) rfl (fun h18 => ?_) (fun h18 => ?_)
   ·skip
    refine AL.n ?_
    refine AL.rf ?_
    refine AL.rf ?_
    refine AL.rf ?_
    refine AL.r (rd_pick_t rfl rfl rfl) ?_
    refine AL.nil ?_
    change AW _ _ _ _ _
    refine AW.cond_t rfl ?_
    refine AW.seq ?_
    refine AW.region ?_
    refine AL.ra ?_
    refine AL.nil ?_
    change AW _ _ _ _ _
    refine AW.ret ?_
    change ResA _ _ _ _ _
    refine res1 rfl (ResV.tmp rfl) rfl ?_
    first | rfl | (simp_all; done)
   ·skip
    refine AL.n ?_
    refine AL.ro (rd_move rfl rfl) ?_
    refine AL.ro (rd_len_str rfl str_9 rfl) ?_
    refine AL.ro (rd_bin rfl rfl rfl (fun _ => rfl)) ?_
    refine AL.r (rd_pick_f rfl rfl rfl) ?_
    refine AL.nil ?_
    change AW _ _ _ _ _
    refine AW.cd rfl (fun h22 => ?_) (fun h22 => ?_)
    ·skip
     refine AW.seq ?_
     refine AW.region ?_
     refine AL.ra ?_
     refine AL.nil ?_
     change AW _ _ _ _ _
     refine AW.ret ?_
     change ResA _ _ _ _ _
     refine res1 rfl (ResV.tmp rfl) rfl ?_
     first | rfl | (simp_all; done)
    ·skip
     refine AW.skip ?_
     change AW _ _ _ _ _
     refine AW.seq ?_
     refine AW.seq ?_
     refine AW.draw (by kernel_rfl) ?_
     have hcl : f.cases.length ≤ 20 := (heavyF_f (f := f) (by simp_all)).2.2.2.1
     have hcg : g.cases.length ≤ 20 := (heavyF_f (f := g) (by simp_all)).2.2.2.1
     refine AD.r 0 rfl (rd_loadN_bx rfl ag_37 rfl rfl (Nat.le_of_ble_eq_true rfl) rfl) rfl ?_
     refine AD.r 2 rfl (rd_loadN_bx rfl ag_37 rfl rfl (Nat.le_of_ble_eq_true rfl) rfl) rfl ?_
     refine AD.move 1 rfl (by kernel_rfl) rfl (op_call (right_c f) rfl (by kernel_rfl) rfl (none) ?_)
     rintro r rfl
     refine AD.n ?_
     refine AD.move 3 rfl (by kernel_rfl) rfl (op_call (rright13 f (by omega)) rfl (by kernel_rfl) rfl (none) ?_)
     rintro r rfl
     refine AD.n ?_
     refine AD.r 4 rfl (rd_bneq rfl bo_4 rfl rfl) rfl ?_
     refine AD.r 5 rfl (rd_move rfl rfl) rfl ?_
     refine AD.fk (d := 28) rfl (fun h28 => ?_) (fun h28 => ?_)
     ·skip
      refine AD.n ?_
      refine AD.s 6 rfl ⟨_, _, rfl, rfl, rfl⟩ ?_
      refine AD.s 7 rfl ⟨_, _, rfl, rfl, rfl⟩ ?_
      refine AD.s 8 rfl ⟨_, _, rfl, rfl, rfl⟩ ?_
      refine AD.s 9 rfl ⟨_, _, rfl, rfl, rfl⟩ ?_
      refine AD.s 10 rfl ⟨_, _, rfl, rfl, rfl⟩ ?_
      refine AD.s 11 rfl ⟨_, _, rfl, rfl, rfl⟩ ?_
      refine AD.s 12 rfl ⟨_, _, rfl, rfl, rfl⟩ ?_
      refine AD.r 13 rfl (rd_pick_t rfl rfl rfl) rfl ?_
      refine AD.r 14 rfl (rd_move rfl rfl) rfl ?_
      refine AD.s 15 rfl ⟨_, _, rfl, rfl, rfl⟩ ?_
      refine AD.s 16 rfl ⟨_, _, rfl, rfl, rfl⟩ ?_
      refine AD.s 17 rfl ⟨_, _, rfl, rfl, rfl⟩ ?_
      refine AD.s 18 rfl ⟨_, _, rfl, rfl, rfl⟩ ?_
      refine AD.s 19 rfl ⟨_, _, rfl, rfl, rfl⟩ ?_
      refine AD.s 20 rfl ⟨_, _, rfl, rfl, rfl⟩ ?_
      refine AD.s 21 rfl ⟨_, _, rfl, rfl, rfl⟩ ?_
      refine AD.r 22 rfl (rd_pick_t rfl rfl rfl) rfl ?_
      refine AD.done (by kernel_rfl) ?_
      change AW _ _ _ _ _
      refine AW.cond_t rfl ?_
      refine AW.seq ?_
      refine AW.region ?_
      refine AL.ra ?_
      refine AL.nil ?_
      change AW _ _ _ _ _
      refine AW.ret ?_
      change ResA _ _ _ _ _
      refine res1 rfl (ResV.tmp rfl) rfl ?_
      first | rfl | (simp_all; done)
     ·skip
      refine AD.n ?_
      refine AD.r 6 rfl (rd_loadN_bx rfl ag_37 rfl rfl (Nat.le_of_ble_eq_true rfl) rfl) ⟨_, _, rfl, rfl, rfl⟩ ?_
      refine AD.r 7 rfl (rd_move rfl rfl) ⟨_, _, rfl, rfl, rfl⟩ ?_
      refine AD.r 9 rfl (rd_loadN_bx rfl ag_37 rfl rfl (Nat.le_of_ble_eq_true rfl) rfl) ⟨_, _, rfl, rfl, rfl⟩ ?_
      refine AD.r 10 rfl (rd_move rfl rfl) ⟨_, _, rfl, rfl, rfl⟩ ?_
      refine AD.move 8 rfl (by kernel_rfl) ⟨_, _, rfl, rfl, rfl⟩ (op_call (fits_c f s) rfl (by kernel_rfl) rfl (none) ?_)
      rintro r rfl
      refine AD.n ?_
      refine AD.move 11 rfl (by kernel_rfl) ⟨_, _, rfl, rfl, rfl⟩ (op_call (rfits_c f s (by omega)) rfl (by kernel_rfl) rfl (none) ?_)
      rintro r rfl
      refine AD.n ?_
      refine AD.r 12 rfl (rd_bneq rfl bo_4 rfl rfl) ⟨_, _, rfl, rfl, rfl⟩ ?_
      refine AD.r 13 rfl (rd_pick_f rfl rfl rfl) rfl ?_
      refine AD.r 14 rfl (rd_move rfl rfl) rfl ?_
      refine AD.fk (d := 37) rfl (fun h37 => ?_) (fun h37 => ?_)
      ·skip
       refine AD.n ?_
       refine AD.s 15 rfl ⟨_, _, rfl, rfl, rfl⟩ ?_
       refine AD.s 16 rfl ⟨_, _, rfl, rfl, rfl⟩ ?_
       refine AD.s 17 rfl ⟨_, _, rfl, rfl, rfl⟩ ?_
       refine AD.s 18 rfl ⟨_, _, rfl, rfl, rfl⟩ ?_
       refine AD.s 19 rfl ⟨_, _, rfl, rfl, rfl⟩ ?_
       refine AD.s 20 rfl ⟨_, _, rfl, rfl, rfl⟩ ?_
       refine AD.s 21 rfl ⟨_, _, rfl, rfl, rfl⟩ ?_
       refine AD.r 22 rfl (rd_pick_t rfl rfl rfl) rfl ?_
       refine AD.done (by kernel_rfl) ?_
       change AW _ _ _ _ _
       refine AW.cond_t rfl ?_
       refine AW.seq ?_
       refine AW.region ?_
       refine AL.ra ?_
       refine AL.nil ?_
       change AW _ _ _ _ _
       refine AW.ret ?_
       change ResA _ _ _ _ _
       refine res1 rfl (ResV.tmp rfl) rfl ?_
       first | rfl | (simp_all; done)
      ·skip
       refine AD.n ?_
       refine AD.r 15 rfl (rd_loadN_bx rfl ag_37 rfl rfl (Nat.le_of_ble_eq_true rfl) rfl) ⟨_, _, rfl, rfl, rfl⟩ ?_
       refine AD.r 16 rfl (rd_loadN_bx rfl ag_37 rfl rfl (Nat.le_of_ble_eq_true rfl) rfl) ⟨_, _, rfl, rfl, rfl⟩ ?_
       refine AD.r 18 rfl (rd_loadN_bx rfl ag_37 rfl rfl (Nat.le_of_ble_eq_true rfl) rfl) ⟨_, _, rfl, rfl, rfl⟩ ?_
       refine AD.r 19 rfl (rd_loadN_bx rfl ag_37 rfl rfl (Nat.le_of_ble_eq_true rfl) rfl) ⟨_, _, rfl, rfl, rfl⟩ ?_
       refine AD.move 17 rfl (by kernel_rfl) ⟨_, _, rfl, rfl, rfl⟩ (op_call (same_c f g) rfl (by kernel_rfl) rfl (none) ?_)
       rintro r rfl
       refine AD.n ?_
       refine AD.move 20 rfl (by kernel_rfl) ⟨_, _, rfl, rfl, rfl⟩ (op_call (rsame_c f g (by omega)) rfl (by kernel_rfl) rfl (none) ?_)
       rintro r rfl
       refine AD.n ?_
       refine AD.r 21 rfl (rd_bneq rfl bo_4 rfl rfl) ⟨_, _, rfl, rfl, rfl⟩ ?_
       refine AD.r 22 rfl (rd_pick_f rfl rfl rfl) rfl ?_
       refine AD.done (by kernel_rfl) ?_
       change AW _ _ _ _ _
       refine AW.cd rfl (fun h45 => ?_) (fun h45 => ?_)
       ·skip
        refine AW.seq ?_
        refine AW.region ?_
        refine AL.ra ?_
        refine AL.nil ?_
        change AW _ _ _ _ _
        refine AW.ret ?_
        change ResA _ _ _ _ _
        refine res1 rfl (ResV.tmp rfl) rfl ?_
        first | rfl | (simp_all; done)
       ·skip
        refine AW.skip ?_
        change AW _ _ _ _ _
        refine AW.seq ?_
        refine AW.seq ?_
        refine AW.region ?_
        refine AL.ra ?_
        refine AL.nil ?_
        change AW _ _ _ _ _
        refine AW.block ?_
        refine AW.loopM (ι := Nat) [6, 46, 47, 48, 49, 50, 51, 52, 53, 54, 55, 56, 57, 58, 59, 60, 61, 62] (fun k => [(7, AI (k : Int))]) [] (fun k => []) (fun k => k ≤ f.cases.length) (fun k => f.cases.length - k) 0 (Nat.zero_le _) (by simp only [anys, upds, offs, List.set_cons_zero, List.set_cons_succ]; repeat (first | exact Wk.nil | refine Wk.same ?_ | refine Wk.any ?_)) (by simp only [anys, upds, offs, List.set_cons_zero, List.set_cons_succ]; repeat (first | exact Sk.nil _ | refine Sk.same _ ?_ | refine Sk.scr _ (by decide) ?_)) ?_
        rintro k gs hJ
        refine AW.norm (by simp only [anys, upds, offs, List.set_cons_zero, List.set_cons_succ]; rfl) (by (try simp only [anys, upds, offs, List.set_cons_zero, List.set_cons_succ]); (try rfl)) ?_
        refine AW.seq ?_
        refine AW.seq ?_
        refine AW.region ?_
        refine AL.rm ?_
        refine AL.r (rd_faddr_bx rfl fo_37_3 rfl rfl ⟨_, _, rfl⟩) ?_
        refine AL.r (rd_load_bx rfl ag_35 rfl rfl rfl) ?_
        refine AL.r (rd_len_sl rfl el_35 rfl) ?_
        refine AL.r (rd_bin rfl rfl rfl (fun _ => rfl)) ?_
        refine AL.nil ?_
        change AW _ _ _ _ _
        refine AW.cd rfl (fun h50 => ?_) (fun h50 => ?_)
        ·skip
         refine AW.skip ?_
         change AW _ _ _ _ _
         refine AW.seq ?_
         refine AW.block ?_
         refine AW.seq ?_
         refine AW.draw (by kernel_rfl) ?_
         refine AD.r 0 rfl (rd_loadN_bx rfl ag_37 rfl rfl (Nat.le_of_ble_eq_true rfl) rfl) rfl ?_
         refine AD.r 1 rfl (rd_faddr_bx rfl fo_37_3 rfl rfl ⟨_, _, rfl⟩) rfl ?_
         refine AD.r 2 rfl (rd_load_bx rfl ag_35 rfl rfl rfl) rfl ?_
         refine AD.r 3 rfl (rd_move rfl rfl) rfl ?_
         refine AD.r 4 rfl (rd_iaddr_sl rfl el_35 rfl rfl rfl (get_mapA (by omega)) rfl) rfl ?_
         refine AD.r 5 rfl (rd_load_ep rfl ag_9 rfl rfl) rfl ?_
         refine AD.r 7 rfl (rd_loadN_bx rfl ag_37 rfl rfl (Nat.le_of_ble_eq_true rfl) rfl) rfl ?_
         refine AD.move 6 rfl (by kernel_rfl) rfl (op_call (fits_c f (f.cases[k]'(by omega))) rfl (by kernel_rfl) rfl (none) ?_)
         rintro r rfl
         refine AD.n ?_
         refine AD.move 8 rfl (by kernel_rfl) rfl (op_call (rright13 f (by omega)) rfl (by kernel_rfl) rfl (none) ?_)
         rintro r rfl
         refine AD.n ?_
         refine AD.r 9 rfl (rd_bneq rfl bo_4 rfl rfl) rfl ?_
         refine AD.done (by kernel_rfl) ?_
         change AW _ _ _ _ _
         refine AW.cd rfl (fun h62 => ?_) (fun h62 => ?_)
         ·skip
          exact (h62 (fits_case (by omega))).elim
         ·skip
          refine AW.skip ?_
          change AW _ _ _ _ _
          refine AW.region ?_
          refine AL.rm ?_
          refine AL.r (rd_arith_add rfl rfl rfl (by first | exact IntWalk.i64_in _ (by omega) | rfl)) ?_
          refine AL.ra ?_
          refine AL.nil ?_
          refine ⟨k + 1, by omega, by first | omega | (simp only []; omega), ?_, ?_⟩
          ·simp only [anys, upds, offs, List.set_cons_zero, List.set_cons_succ]; repeat (first | exact Wk.nil | refine Wk.same ?_ | refine Wk.any ?_)
          ·simp only [anys, upds, offs, List.set_cons_zero, List.set_cons_succ]; repeat (first | exact Sk.nil _ | refine Sk.same _ ?_ | refine Sk.scr _ (by decide) ?_)
        ·skip
         refine AW.exit ?_
         change AW _ _ _ _ _
         refine AW.seq ?_
         refine AW.region ?_
         refine AL.r (rd_loadN_bx rfl ag_37 rfl rfl (Nat.le_of_ble_eq_true rfl) rfl) ?_
         refine AL.op rfl (AOpB.op (op_call (own_c f (by omega)) rfl (by kernel_rfl) rfl (none) ?_))
         rintro r rfl
         refine AL.no ?_
         refine AL.op rfl (AOpB.op (op_alloc 3 rfl ze_37 rfl ?_))
         refine AL.no ?_
         refine AL.op rfl (op_store_ rfl rfl rfl rfl rfl sz_37 ?_)
         refine AL.no ?_
         refine AL.nil ?_
         change AW _ _ _ _ _
         refine AW.seq ?_
         refine AW.seq ?_
         refine AW.region ?_
         refine AL.r (rd_loadN_bx rfl ag_37 rfl rfl (Nat.le_of_ble_eq_true rfl) rfl) ?_
         refine AL.r (rd_loadN_bx rfl ag_37 rfl rfl (Nat.le_of_ble_eq_true rfl) rfl) ?_
         refine AL.op rfl (AOpB.op (op_call (same_c f f) rfl (by kernel_rfl) rfl (none) ?_))
         rintro r rfl
         refine AL.no ?_
         refine AL.r (rd_un rfl rfl (fun _ => rfl)) ?_
         refine AL.nil ?_
         change AW _ _ _ _ _
         refine AW.cd rfl (fun h68 => ?_) (fun h68 => ?_)
         ·skip
          refine AW.seq ?_
          refine AW.region ?_
          refine AL.ra ?_
          refine AL.nil ?_
          change AW _ _ _ _ _
          refine AW.ret ?_
          change ResA _ _ _ _ _
          refine res1 rfl (ResV.tmp rfl) rfl ?_
          first | rfl | (simp_all; done)
         ·skip
          refine AW.skip ?_
          change AW _ _ _ _ _
          refine AW.seq ?_
          refine AW.seq ?_
          refine AW.region ?_
          refine AL.r (rd_faddr_bx rfl fo_37_3 rfl rfl ⟨_, _, rfl⟩) ?_
          refine AL.r (rd_load_bx rfl ag_35 rfl rfl rfl) ?_
          refine AL.r (rd_len_sl rfl el_35 rfl) ?_
          refine AL.r (rd_bin rfl rfl rfl (fun _ => rfl)) ?_
          refine AL.nil ?_
          change AW _ _ _ _ _
          refine AW.cd rfl (fun h72 => ?_) (fun h72 => ?_)
          ·skip
           (rw [hnil] at h72; simp [csS] at h72)
          ·skip
           refine AW.skip ?_
           change AW _ _ _ _ _
           refine AW.seq ?_
           refine AW.region ?_
           refine AL.ra ?_
           refine AL.nil ?_
           change AW _ _ _ _ _
           refine AW.ret ?_
           change ResA _ _ _ _ _
           refine res1 rfl (ResV.tmp rfl) rfl ?_
           first | rfl | (simp_all; done)
set_option maxHeartbeats 4000000 in
theorem fright_1 (f g : FldD) (s : Bytes) (hne : f.cases ≠ []) : AC Tryd.prog 5 [f.av, g.av, AS s] (fun x => x = .s (AB true)) := by
  have hpos : 0 < f.cases.length := List.length_pos_iff.2 hne
  change AC _ _ [.ag [AI f.at_.scope, AS f.at_.group, AS f.at_.name, AI f.kind, AS f.dflt, .sl (csS f.cases), AI f.worth], .ag [AI g.at_.scope, AS g.at_.group, AS g.at_.name, AI g.kind, AS g.dflt, .sl (csS g.cases), AI g.worth], AS s] _
  refine AC.of' 85 4 Tryd.func5 rfl ?_
  change AW _ _ _ _ [TK.mk 0 .off, TK.mk 0 .off, TK.mk 0 .off, TK.mk 0 .off]
  refine AW.seq ?_
  refine AW.region ?_
  refine AL.op rfl (AOpB.op (op_box 1 rfl rfl rfl rfl rfl ?_))
  refine AL.no ?_
  refine AL.op rfl (AOpB.op (op_box 2 rfl rfl rfl rfl rfl ?_))
  refine AL.no ?_
  refine AL.ra ?_
  refine AL.nil ?_
  change AW _ _ _ _ _
  refine AW.seq ?_
  refine AW.seq ?_
  refine AW.region ?_
  refine AL.op rfl (AOpB.op (op_call (awake_c) rfl (by kernel_rfl) rfl (none) ?_))
  rintro r rfl
  refine AL.no ?_
  refine AL.r (rd_un rfl rfl (fun _ => rfl)) ?_
  refine AL.nil ?_
  change AW _ _ _ _ _
  refine AW.cond_f rfl ?_
  refine AW.skip ?_
  change AW _ _ _ _ _
  refine AW.seq ?_
  refine AW.seq ?_
  refine AW.region ?_
  refine AL.r (rd_loadN_bx rfl ag_37 rfl rfl (Nat.le_of_ble_eq_true rfl) rfl) ?_
  refine AL.op rfl (AOpB.op (op_call (rheavy_c f) rfl (by kernel_rfl) rfl (none) ?_))
  rintro r rfl
  refine AL.no ?_
  refine AL.rm ?_
  refine AL.fk (d := 14) rfl (fun h14 => ?_) (fun h14 => ?_)
  ·skip
   refine AL.n ?_
   refine AL.rf ?_
   refine AL.rf ?_
   refine AL.r (rd_pick_t rfl rfl rfl) ?_
   refine AL.rm ?_
   refine AL.rf ?_
   refine AL.rf ?_
   refine AL.rf ?_
   refine AL.r (rd_pick_t rfl rfl rfl) ?_
   refine AL.nil ?_
   change AW _ _ _ _ _
   refine AW.cond_t rfl ?_
   refine AW.seq ?_
   refine AW.region ?_
   refine AL.ra ?_
   refine AL.nil ?_
   change AW _ _ _ _ _
   refine AW.ret ?_
   change ResA _ _ _ _ _
   refine res1 rfl (ResV.tmp rfl) rfl ?_
   first | rfl | (simp_all; done)
  ·skip
   refine AL.n ?_
   refine AL.ro (rd_loadN_bx rfl ag_37 rfl rfl (Nat.le_of_ble_eq_true rfl) rfl) ?_
   refine AL.on rfl rfl rfl (AOpB.op (op_call (rheavy_c g) rfl (by kernel_rfl) rfl (none) ?_))
   rintro r rfl
   refine AL.no ?_
   refine AL.r (rd_pick_f rfl rfl rfl) ?_
   refine AL.rm ?_
   refine AL.fk (d := 18) rfl (fun h18 => ?_) (fun h18 => ?_)
   ·skip
    refine AL.n ?_
    refine AL.rf ?_
    refine AL.rf ?_
    refine AL.rf ?_
    refine AL.r (rd_pick_t rfl rfl rfl) ?_
    refine AL.nil ?_
    change AW _ _ _ _ _
    refine AW.cond_t rfl ?_
    refine AW.seq ?_
    refine AW.region ?_
    refine AL.ra ?_
    refine AL.nil ?_
    change AW _ _ _ _ _
    refine AW.ret ?_
    change ResA _ _ _ _ _
    refine res1 rfl (ResV.tmp rfl) rfl ?_
    first | rfl | (simp_all; done)
   ·skip
    refine AL.n ?_
    refine AL.ro (rd_move rfl rfl) ?_
    refine AL.ro (rd_len_str rfl str_9 rfl) ?_
    refine AL.ro (rd_bin rfl rfl rfl (fun _ => rfl)) ?_
    refine AL.r (rd_pick_f rfl rfl rfl) ?_
    refine AL.nil ?_
    change AW _ _ _ _ _
    refine AW.cd rfl (fun h22 => ?_) (fun h22 => ?_)
    ·skip
     refine AW.seq ?_
     refine AW.region ?_
     refine AL.ra ?_
     refine AL.nil ?_
     change AW _ _ _ _ _
     refine AW.ret ?_
     change ResA _ _ _ _ _
     refine res1 rfl (ResV.tmp rfl) rfl ?_
     first | rfl | (simp_all; done)
    ·skip
     refine AW.skip ?_
     change AW _ _ _ _ _
     refine AW.seq ?_
     refine AW.seq ?_
     refine AW.draw (by kernel_rfl) ?_
     have hcl : f.cases.length ≤ 20 := (heavyF_f (f := f) (by simp_all)).2.2.2.1
     have hcg : g.cases.length ≤ 20 := (heavyF_f (f := g) (by simp_all)).2.2.2.1
     refine AD.r 0 rfl (rd_loadN_bx rfl ag_37 rfl rfl (Nat.le_of_ble_eq_true rfl) rfl) rfl ?_
     refine AD.r 2 rfl (rd_loadN_bx rfl ag_37 rfl rfl (Nat.le_of_ble_eq_true rfl) rfl) rfl ?_
     refine AD.move 1 rfl (by kernel_rfl) rfl (op_call (right_c f) rfl (by kernel_rfl) rfl (none) ?_)
     rintro r rfl
     refine AD.n ?_
     refine AD.move 3 rfl (by kernel_rfl) rfl (op_call (rright13 f (by omega)) rfl (by kernel_rfl) rfl (none) ?_)
     rintro r rfl
     refine AD.n ?_
     refine AD.r 4 rfl (rd_bneq rfl bo_4 rfl rfl) rfl ?_
     refine AD.r 5 rfl (rd_move rfl rfl) rfl ?_
     refine AD.fk (d := 28) rfl (fun h28 => ?_) (fun h28 => ?_)
     ·skip
      refine AD.n ?_
      refine AD.s 6 rfl ⟨_, _, rfl, rfl, rfl⟩ ?_
      refine AD.s 7 rfl ⟨_, _, rfl, rfl, rfl⟩ ?_
      refine AD.s 8 rfl ⟨_, _, rfl, rfl, rfl⟩ ?_
      refine AD.s 9 rfl ⟨_, _, rfl, rfl, rfl⟩ ?_
      refine AD.s 10 rfl ⟨_, _, rfl, rfl, rfl⟩ ?_
      refine AD.s 11 rfl ⟨_, _, rfl, rfl, rfl⟩ ?_
      refine AD.s 12 rfl ⟨_, _, rfl, rfl, rfl⟩ ?_
      refine AD.r 13 rfl (rd_pick_t rfl rfl rfl) rfl ?_
      refine AD.r 14 rfl (rd_move rfl rfl) rfl ?_
      refine AD.s 15 rfl ⟨_, _, rfl, rfl, rfl⟩ ?_
      refine AD.s 16 rfl ⟨_, _, rfl, rfl, rfl⟩ ?_
      refine AD.s 17 rfl ⟨_, _, rfl, rfl, rfl⟩ ?_
      refine AD.s 18 rfl ⟨_, _, rfl, rfl, rfl⟩ ?_
      refine AD.s 19 rfl ⟨_, _, rfl, rfl, rfl⟩ ?_
      refine AD.s 20 rfl ⟨_, _, rfl, rfl, rfl⟩ ?_
      refine AD.s 21 rfl ⟨_, _, rfl, rfl, rfl⟩ ?_
      refine AD.r 22 rfl (rd_pick_t rfl rfl rfl) rfl ?_
      refine AD.done (by kernel_rfl) ?_
      change AW _ _ _ _ _
      refine AW.cond_t rfl ?_
      refine AW.seq ?_
      refine AW.region ?_
      refine AL.ra ?_
      refine AL.nil ?_
      change AW _ _ _ _ _
      refine AW.ret ?_
      change ResA _ _ _ _ _
      refine res1 rfl (ResV.tmp rfl) rfl ?_
      first | rfl | (simp_all; done)
     ·skip
      refine AD.n ?_
      refine AD.r 6 rfl (rd_loadN_bx rfl ag_37 rfl rfl (Nat.le_of_ble_eq_true rfl) rfl) ⟨_, _, rfl, rfl, rfl⟩ ?_
      refine AD.r 7 rfl (rd_move rfl rfl) ⟨_, _, rfl, rfl, rfl⟩ ?_
      refine AD.r 9 rfl (rd_loadN_bx rfl ag_37 rfl rfl (Nat.le_of_ble_eq_true rfl) rfl) ⟨_, _, rfl, rfl, rfl⟩ ?_
      refine AD.r 10 rfl (rd_move rfl rfl) ⟨_, _, rfl, rfl, rfl⟩ ?_
      refine AD.move 8 rfl (by kernel_rfl) ⟨_, _, rfl, rfl, rfl⟩ (op_call (fits_c f s) rfl (by kernel_rfl) rfl (none) ?_)
      rintro r rfl
      refine AD.n ?_
      refine AD.move 11 rfl (by kernel_rfl) ⟨_, _, rfl, rfl, rfl⟩ (op_call (rfits_c f s (by omega)) rfl (by kernel_rfl) rfl (none) ?_)
      rintro r rfl
      refine AD.n ?_
      refine AD.r 12 rfl (rd_bneq rfl bo_4 rfl rfl) ⟨_, _, rfl, rfl, rfl⟩ ?_
      refine AD.r 13 rfl (rd_pick_f rfl rfl rfl) rfl ?_
      refine AD.r 14 rfl (rd_move rfl rfl) rfl ?_
      refine AD.fk (d := 37) rfl (fun h37 => ?_) (fun h37 => ?_)
      ·skip
       refine AD.n ?_
       refine AD.s 15 rfl ⟨_, _, rfl, rfl, rfl⟩ ?_
       refine AD.s 16 rfl ⟨_, _, rfl, rfl, rfl⟩ ?_
       refine AD.s 17 rfl ⟨_, _, rfl, rfl, rfl⟩ ?_
       refine AD.s 18 rfl ⟨_, _, rfl, rfl, rfl⟩ ?_
       refine AD.s 19 rfl ⟨_, _, rfl, rfl, rfl⟩ ?_
       refine AD.s 20 rfl ⟨_, _, rfl, rfl, rfl⟩ ?_
       refine AD.s 21 rfl ⟨_, _, rfl, rfl, rfl⟩ ?_
       refine AD.r 22 rfl (rd_pick_t rfl rfl rfl) rfl ?_
       refine AD.done (by kernel_rfl) ?_
       change AW _ _ _ _ _
       refine AW.cond_t rfl ?_
       refine AW.seq ?_
       refine AW.region ?_
       refine AL.ra ?_
       refine AL.nil ?_
       change AW _ _ _ _ _
       refine AW.ret ?_
       change ResA _ _ _ _ _
       refine res1 rfl (ResV.tmp rfl) rfl ?_
       first | rfl | (simp_all; done)
      ·skip
       refine AD.n ?_
       refine AD.r 15 rfl (rd_loadN_bx rfl ag_37 rfl rfl (Nat.le_of_ble_eq_true rfl) rfl) ⟨_, _, rfl, rfl, rfl⟩ ?_
       refine AD.r 16 rfl (rd_loadN_bx rfl ag_37 rfl rfl (Nat.le_of_ble_eq_true rfl) rfl) ⟨_, _, rfl, rfl, rfl⟩ ?_
       refine AD.r 18 rfl (rd_loadN_bx rfl ag_37 rfl rfl (Nat.le_of_ble_eq_true rfl) rfl) ⟨_, _, rfl, rfl, rfl⟩ ?_
       refine AD.r 19 rfl (rd_loadN_bx rfl ag_37 rfl rfl (Nat.le_of_ble_eq_true rfl) rfl) ⟨_, _, rfl, rfl, rfl⟩ ?_
       refine AD.move 17 rfl (by kernel_rfl) ⟨_, _, rfl, rfl, rfl⟩ (op_call (same_c f g) rfl (by kernel_rfl) rfl (none) ?_)
       rintro r rfl
       refine AD.n ?_
       refine AD.move 20 rfl (by kernel_rfl) ⟨_, _, rfl, rfl, rfl⟩ (op_call (rsame_c f g (by omega)) rfl (by kernel_rfl) rfl (none) ?_)
       rintro r rfl
       refine AD.n ?_
       refine AD.r 21 rfl (rd_bneq rfl bo_4 rfl rfl) ⟨_, _, rfl, rfl, rfl⟩ ?_
       refine AD.r 22 rfl (rd_pick_f rfl rfl rfl) rfl ?_
       refine AD.done (by kernel_rfl) ?_
       change AW _ _ _ _ _
       refine AW.cd rfl (fun h45 => ?_) (fun h45 => ?_)
       ·skip
        refine AW.seq ?_
        refine AW.region ?_
        refine AL.ra ?_
        refine AL.nil ?_
        change AW _ _ _ _ _
        refine AW.ret ?_
        change ResA _ _ _ _ _
        refine res1 rfl (ResV.tmp rfl) rfl ?_
        first | rfl | (simp_all; done)
       ·skip
        refine AW.skip ?_
        change AW _ _ _ _ _
        refine AW.seq ?_
        refine AW.seq ?_
        refine AW.region ?_
        refine AL.ra ?_
        refine AL.nil ?_
        change AW _ _ _ _ _
        refine AW.block ?_
        refine AW.loopM (ι := Nat) [6, 46, 47, 48, 49, 50, 51, 52, 53, 54, 55, 56, 57, 58, 59, 60, 61, 62] (fun k => [(7, AI (k : Int))]) [] (fun k => []) (fun k => k ≤ f.cases.length) (fun k => f.cases.length - k) 0 (Nat.zero_le _) (by simp only [anys, upds, offs, List.set_cons_zero, List.set_cons_succ]; repeat (first | exact Wk.nil | refine Wk.same ?_ | refine Wk.any ?_)) (by simp only [anys, upds, offs, List.set_cons_zero, List.set_cons_succ]; repeat (first | exact Sk.nil _ | refine Sk.same _ ?_ | refine Sk.scr _ (by decide) ?_)) ?_
        rintro k gs hJ
        refine AW.norm (by simp only [anys, upds, offs, List.set_cons_zero, List.set_cons_succ]; rfl) (by (try simp only [anys, upds, offs, List.set_cons_zero, List.set_cons_succ]); (try rfl)) ?_
        refine AW.seq ?_
        refine AW.seq ?_
        refine AW.region ?_
        refine AL.rm ?_
        refine AL.r (rd_faddr_bx rfl fo_37_3 rfl rfl ⟨_, _, rfl⟩) ?_
        refine AL.r (rd_load_bx rfl ag_35 rfl rfl rfl) ?_
        refine AL.r (rd_len_sl rfl el_35 rfl) ?_
        refine AL.r (rd_bin rfl rfl rfl (fun _ => rfl)) ?_
        refine AL.nil ?_
        change AW _ _ _ _ _
        refine AW.cd rfl (fun h50 => ?_) (fun h50 => ?_)
        ·skip
         refine AW.skip ?_
         change AW _ _ _ _ _
         refine AW.seq ?_
         refine AW.block ?_
         refine AW.seq ?_
         refine AW.draw (by kernel_rfl) ?_
         refine AD.r 0 rfl (rd_loadN_bx rfl ag_37 rfl rfl (Nat.le_of_ble_eq_true rfl) rfl) rfl ?_
         refine AD.r 1 rfl (rd_faddr_bx rfl fo_37_3 rfl rfl ⟨_, _, rfl⟩) rfl ?_
         refine AD.r 2 rfl (rd_load_bx rfl ag_35 rfl rfl rfl) rfl ?_
         refine AD.r 3 rfl (rd_move rfl rfl) rfl ?_
         refine AD.r 4 rfl (rd_iaddr_sl rfl el_35 rfl rfl rfl (get_mapA (by omega)) rfl) rfl ?_
         refine AD.r 5 rfl (rd_load_ep rfl ag_9 rfl rfl) rfl ?_
         refine AD.r 7 rfl (rd_loadN_bx rfl ag_37 rfl rfl (Nat.le_of_ble_eq_true rfl) rfl) rfl ?_
         refine AD.move 6 rfl (by kernel_rfl) rfl (op_call (fits_c f (f.cases[k]'(by omega))) rfl (by kernel_rfl) rfl (none) ?_)
         rintro r rfl
         refine AD.n ?_
         refine AD.move 8 rfl (by kernel_rfl) rfl (op_call (rright13 f (by omega)) rfl (by kernel_rfl) rfl (none) ?_)
         rintro r rfl
         refine AD.n ?_
         refine AD.r 9 rfl (rd_bneq rfl bo_4 rfl rfl) rfl ?_
         refine AD.done (by kernel_rfl) ?_
         change AW _ _ _ _ _
         refine AW.cd rfl (fun h62 => ?_) (fun h62 => ?_)
         ·skip
          exact (h62 (fits_case (by omega))).elim
         ·skip
          refine AW.skip ?_
          change AW _ _ _ _ _
          refine AW.region ?_
          refine AL.rm ?_
          refine AL.r (rd_arith_add rfl rfl rfl (by first | exact IntWalk.i64_in _ (by omega) | rfl)) ?_
          refine AL.ra ?_
          refine AL.nil ?_
          refine ⟨k + 1, by omega, by first | omega | (simp only []; omega), ?_, ?_⟩
          ·simp only [anys, upds, offs, List.set_cons_zero, List.set_cons_succ]; repeat (first | exact Wk.nil | refine Wk.same ?_ | refine Wk.any ?_)
          ·simp only [anys, upds, offs, List.set_cons_zero, List.set_cons_succ]; repeat (first | exact Sk.nil _ | refine Sk.same _ ?_ | refine Sk.scr _ (by decide) ?_)
        ·skip
         refine AW.exit ?_
         change AW _ _ _ _ _
         refine AW.seq ?_
         refine AW.raw0 0 rfl ?_
         refine AW.norm rfl (by (try simp only [anys, upds, offs, List.set_cons_zero, List.set_cons_succ]); (try rfl)) ?_
         refine AW.region ?_
         refine AL.r (rd_loadN_bx rfl ag_37 rfl rfl (Nat.le_of_ble_eq_true rfl) rfl) ?_
         refine AL.op rfl (op_callo (fown_x 1 _ f (by omega) hne) rfl (by kernel_rfl) [0] (by decide) (by simp only [FldD.cs, List.map_cons, List.map_nil, renT, renC_owM, renC_box, renC_own, renC_nown, renC_obj, renC_off, ren0, List.getD_cons_zero, List.getD_cons_succ]; exact ⟨rfl, trivial⟩) rfl (by simp only [FldD.cs, cleanS, cle_owM, cle_own, cle_nown, cle_obj, cle_off, cle_box, okC, liveA, List.take_succ_cons, List.take_zero, List.all_cons, List.all_nil, List.getElem?_cons_zero, List.getElem?_cons_succ, isO_owM, isO_own, isO_nown, TC.isB, beq_self_eq_true, Bool.and_self, Bool.and_true, ok1, ok2, List.map_cons, List.map_nil]) (by simp only [FldD.cs, cleanS, cle_owM, cle_own, cle_nown, cle_obj, cle_off, cle_box, okC, liveA, List.take_succ_cons, List.take_zero, List.all_cons, List.all_nil, List.getElem?_cons_zero, List.getElem?_cons_succ, isO_owM, isO_own, isO_nown, TC.isB, beq_self_eq_true, Bool.and_self, Bool.and_true, ok1, ok2, List.map_cons, List.map_nil]) ?_)
         rintro y os' ⟨b, c, vs, M, rfl, rfl, hM, hvs, hR⟩
         refine AL.no ?_ (by (try simp only [FldD.cs, putA, evA, List.getD_cons_zero, List.getD_cons_succ, List.set_cons_zero, List.set_cons_succ, List.length_map, KR, splA, List.map_cons, List.map_nil, List.length_append, List.length_cons, List.length_nil, List.drop_zero, csS_len, csS_take, csS_drop, csS_app, byA_len, byA_take, byA_drop, byA_app, ← List.map_take, ← List.map_drop, ← List.map_append, List.take_succ_cons, List.take_zero, List.drop_succ_cons, List.cons_append, List.nil_append, Nat.zero_add, Nat.reduceAdd, Nat.reduceMul, Nat.add_zero, Nat.mul_one, putT, renT, renC_owM, renC_box, renC_own, renC_nown, renC_obj, renC_off, ren2, ren1, ren0, ok1, ok2]); (try rfl)) (by (try simp only [FldD.cs, putA, evA, List.getD_cons_zero, List.getD_cons_succ, List.set_cons_zero, List.set_cons_succ, List.length_map, KR, splA, List.map_cons, List.map_nil, List.length_append, List.length_cons, List.length_nil, List.drop_zero, csS_len, csS_take, csS_drop, csS_app, byA_len, byA_take, byA_drop, byA_app, ← List.map_take, ← List.map_drop, ← List.map_append, List.take_succ_cons, List.take_zero, List.drop_succ_cons, List.cons_append, List.nil_append, Nat.zero_add, Nat.reduceAdd, Nat.reduceMul, Nat.add_zero, Nat.mul_one, putT, renT, renC_owM, renC_box, renC_own, renC_nown, renC_obj, renC_off, ren2, ren1, ren0, ok1, ok2]); (try rfl))
         refine AL.op rfl (AOpB.op (op_alloc 3 rfl ze_37 rfl ?_))
         refine AL.no ?_
         refine AL.op rfl (op_store_ rfl rfl rfl rfl rfl sz_37 ?_)
         refine AL.no ?_
         refine AL.nil ?_
         change AW _ _ _ _ _
         refine AW.seq ?_
         refine AW.seq ?_
         refine AW.region ?_
         refine AL.r (rd_loadN_bx rfl ag_37 rfl rfl (Nat.le_of_ble_eq_true rfl) rfl) ?_
         refine AL.r (rd_loadN_bx rfl ag_37 rfl rfl (Nat.le_of_ble_eq_true rfl) rfl) ?_
         refine AL.op rfl (AOpB.op (op_call_b2 (same_c f f) rfl (by kernel_rfl) (BArg.ag rfl (.cons (.sc _) (.cons (.sc _) (.cons (.sc _) (.cons (.sc _) (.cons (.sc _) (.cons (.sl _) (.cons (.sc _) .nil)))))))) (BArg.ag rfl (.cons (.sc _) (.cons (.sc _) (.cons (.sc _) (.cons (.sc _) (.cons (.sc _) (.cons (.raw 0 rfl hR) (.cons (.sc _) .nil)))))))) (fun r hr => ⟨_, hr, ?_⟩)))
         refine AL.no ?_
         refine AL.r (rd_un rfl rfl (fun _ => rfl)) ?_
         refine AL.nil ?_
         change AW _ _ _ _ _
         refine AW.cd rfl (fun h68 => ?_) (fun h68 => ?_)
         ·skip
          refine AW.seq ?_
          refine AW.region ?_
          refine AL.ra ?_
          refine AL.nil ?_
          change AW _ _ _ _ _
          refine AW.ret ?_
          change ResA _ _ _ _ _
          refine res1 rfl (ResV.tmp rfl) rfl ?_
          first | rfl | (simp_all; done)
         ·skip
          refine AW.skip ?_
          change AW _ _ _ _ _
          refine AW.seq ?_
          refine AW.seq ?_
          refine AW.region ?_
          refine AL.r (rd_faddr_bx rfl fo_37_3 rfl rfl ⟨_, _, rfl⟩) ?_
          refine AL.r (rd_load_bx rfl ag_35 rfl rfl rfl) ?_
          refine AL.r (rd_len_sc rfl el_35 rfl) ?_
          refine AL.r (rd_bin rfl rfl rfl (fun _ => rfl)) ?_
          refine AL.nil ?_
          change AW _ _ _ _ _
          refine AW.cd rfl (fun h72 => ?_) (fun h72 => ?_)
          ·skip
           refine AW.seq ?_
           refine AW.region ?_
           refine AL.r (rd_faddr_bx rfl fo_37_3 rfl rfl ⟨_, _, rfl⟩) ?_
           refine AL.r (rd_load_bx rfl ag_35 rfl rfl rfl) ?_
           refine AL.r (rd_iaddr_sl (n := 0) rfl el_35 rfl rfl rfl (get_mapA (by omega)) rfl) ?_
           refine AL.r (rd_load_ep rfl ag_9 rfl rfl) ?_
           refine AL.ra ?_
           refine AL.nil ?_
           change AW _ _ _ _ _
           refine AW.seq ?_
           refine AW.region ?_
           have h0l := (heavyF_f (f := f) (by assumption)).2.2.2.2 _ (List.getElem_mem hpos)
           refine AL.r (rd_faddr_bx rfl fo_37_3 rfl rfl ⟨_, _, rfl⟩) ?_
           refine AL.r (rd_load_bx rfl ag_35 rfl rfl rfl) ?_
           refine AL.rm ?_
           refine AL.r (rd_scat rfl rfl rfl ((by simp only [List.length_cons, List.length_nil]; omega))) ?_
           refine AL.r (rd_iaddr_sc rfl el_35 rfl rfl rfl hpos) ?_
           refine AL.op rfl (op_store_raw (q := 0) rfl rfl rfl hM  rfl rfl rfl sz_9  hvs ?_)
           refine AL.no ?_
           refine AL.nil ?_
           change AW _ _ _ _ _
           refine AW.seq ?_
           refine AW.region ?_
           refine AL.r (rd_faddr_bx rfl fo_37_3 rfl rfl ⟨_, _, rfl⟩) ?_
           refine AL.r (rd_load_bx rfl ag_35 rfl rfl rfl) ?_
           refine AL.r (rd_iaddr_sl (n := 0) rfl el_35 rfl rfl rfl (get_mapA (by omega)) rfl) ?_
           refine AL.r (rd_load_ep rfl ag_9 rfl rfl) ?_
           refine AL.rm ?_
           refine AL.r (rd_seq rfl rfl rfl) ?_
           refine AL.ra ?_
           refine AL.nil ?_
           change AW _ _ _ _ _
           refine AW.ret ?_
           change ResA _ _ _ _ _
           refine res1 rfl (ResV.tmp rfl) rfl ?_
           first | rfl | (simp_all; done)
          ·skip
           refine AW.skip ?_
           change AW _ _ _ _ _
           refine AW.seq ?_
           refine AW.region ?_
           refine AL.ra ?_
           refine AL.nil ?_
           change AW _ _ _ _ _
           refine AW.ret ?_
           change ResA _ _ _ _ _
           refine res1 rfl (ResV.tmp rfl) rfl ?_
           first | rfl | (simp_all; done)
theorem walk_FieldRight (w : World) (v0 : Value) (f0 : FldD) (rp0 : RepS AnyB w v0 f0.av) (v1 : Value) (f1 : FldD) (rp1 : RepS AnyB w v1 f1.av) (s2 : ByteArray) (hs2 : s2.size ≤ maxLen) :
    Calls Tryd.prog 5 #[v0, v1, .string s2] w fun e w' => e = .returned (.bool true) ∧ Below w.heap.size w w' := by
  have e : Value.string s2 = sv s2.data.toList := by simp [sv]
  by_cases h : f0.cases = []
  · exact (fright_0 f0 f1 s2.data.toList h).law (vs := [v0, v1, .string s2]) rfl (rep_cons rp0 (rep_cons rp1 (rep_cons (by rw [e]; exact .sc _) rep_nil)))
  · exact (fright_1 f0 f1 s2.data.toList h).law (vs := [v0, v1, .string s2]) rfl (rep_cons rp0 (rep_cons rp1 (rep_cons (by rw [e]; exact .sc _) rep_nil)))
end Go.Proofs.YtpkjlmaphhileaaDoor
