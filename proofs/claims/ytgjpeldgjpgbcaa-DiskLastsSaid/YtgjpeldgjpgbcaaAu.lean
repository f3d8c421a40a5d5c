/- The operations on abstract states, on: slices and structs that are made. No conditions. -/
import Derived.Test.YtgjpeldgjpgbcaaAt
import Derived.Laws.MakeOwn
import Derived.Laws.BytesString
import Derived.Lib.ConvBytes
namespace Go.Proofs.Ytgjpeldgjpgbcaa
set_option linter.unusedSimpArgs false
set_option linter.unusedVariables false
open Go.RowKit

/-! Parts laid into cells. -/
def fillA (place : Nat → Option (Nat × Nat)) (cells : List AV) : List (Nat × List AV) → Option (List AV)
  | [] => some cells
  | (i, zs) :: rest => match place i with
    | none => none
    | some (off, size) => if zs.length ≠ size || off + zs.length > cells.length then none else fillA place (splA cells off zs) rest
def partsA (t : List AV) (st : List TK) : List (Nat × Operand) → Option (List (Nat × List AV))
  | [] => some []
  | (i, x) :: rest => match (evA t x).cells?, partsA t st rest with | some zs, some ps => if liveA st (evA t x) then some ((i, zs) :: ps) else none | _, _ => none
theorem foldl_splV (off : Nat) : ∀ (l : List Value) (k : Nat) (cs : Array Value), (l.zipIdx k).foldl (fun (cs : Array Value) (p : Value × Nat) => cs.setIfInBounds (off + p.2) p.1) cs = splV cs (off + k) l
  | [], _, _ => rfl
  | u :: us, k, cs => by
    rw [List.zipIdx_cons, List.foldl_cons, foldl_splV off us (k + 1)]
    rfl
section
variable {P : Program} {o : Oper} {t : List AV} {st : List TK} {x y s : Operand} {K : AV → List TK → Prop}
theorem fill_rel {R : Value → AV → Prop} (place : Nat → Option (Nat × Nat)) : ∀ (ps : List (Nat × Value)) (qs : List (Nat × List AV)) (vs : Array Value) (cs cs' : List AV), ps.length = qs.length → (∀ (j : Nat) p q, ps[j]? = some p → qs[j]? = some q → p.1 = q.1 ∧ p.2.cells.size = q.2.length ∧ (∀ u ∈ p.2.cells, u.oneCell' = true) ∧ ∀ (i : Nat) v z, p.2.cells[i]? = some v → q.2[i]? = some z → R v z) →
    vs.size = cs.length → (∀ v ∈ vs, v.oneCell' = true) → (∀ (j : Nat) v x, vs[j]? = some v → cs[j]? = some x → R v x) → fillA place cs qs = some cs' → ∃ vs', Instr.fill place vs ps = some vs' ∧ vs'.size = cs'.length ∧ (∀ v ∈ vs', v.oneCell' = true) ∧ ∀ (j : Nat) v x, vs'[j]? = some v → cs'[j]? = some x → R v x
  | [], [], vs, cs, cs', _, _, h1, h2, h3, hf => by simp [fillA] at hf; subst hf; exact ⟨vs, rfl, h1, h2, h3⟩
  | (i, v) :: ps, (i', zs) :: qs, vs, cs, cs', hl, hp, h1, h2, h3, hf => by
    obtain ⟨e1, e2, e3, e4⟩ := hp 0 _ _ rfl rfl
    simp at e1 e2
    subst e1
    simp only [fillA] at hf
    simp only [Instr.fill]
    cases hpl : place i with
    | none => rw [hpl] at hf; cases hf
    | some q =>
      obtain ⟨off, size⟩ := q
      rw [hpl] at hf
      simp only [] at hf ⊢
      split at hf
      · cases hf
      · rename_i hc
        simp at hc
        rw [if_neg (by simp; omega)]
        have e : (v.cells.zipIdx.foldl (fun cs (p : Value × Nat) => cs.setIfInBounds (off + p.2) p.1) vs) = splV vs off v.cells.toList := by
          rw [← Array.foldl_toList, Array.toList_zipIdx]
          exact foldl_splV off v.cells.toList 0 vs
        have key := fill_rel place ps qs (splV vs off v.cells.toList) (splA cs off zs) cs' (by simpa using hl) (fun j p q a b => hp (j + 1) p q (by simpa using a) (by simpa using b)) (by rw [splV_size, splA_len, h1]) (splV_one _ _ _ h2 fun u hu => e3 u (by simpa using hu)) (spl_rel v.cells.toList zs cs vs off (by simpa using e2) h1 h3 fun j u z a b => e4 j u z (by simpa using a) b) hf
        rw [← e] at key
        exact key
  | [], _ :: _, _, _, _, hl, _, _, _, _, _ => by simp at hl
  | _ :: _, [], _, _, _, hl, _, _, _, _, _ => by simp at hl
theorem parts_rep {F : Nat → Prop} {ρ : Loc} {w : World} {a : Act} (hm : Fm F ρ st w a t) : ∀ (ps : List (Nat × Operand)) (qs : List (Nat × List AV)), partsA t st ps = some qs → (ps.map fun p => (p.1, a.eval p.2)).length = qs.length ∧ ∀ (j : Nat) p q, (ps.map fun p => (p.1, a.eval p.2))[j]? = some p → qs[j]? = some q → p.1 = q.1 ∧ p.2.cells.size = q.2.length ∧ (∀ u ∈ p.2.cells, u.oneCell' = true) ∧ ∀ (i : Nat) v z, p.2.cells[i]? = some v → q.2[i]? = some z → Rep F ρ st w v z
  | [], qs, h => by simp [partsA] at h; subst h; simp
  | (i, x) :: ps, qs, h => by
    simp only [partsA] at h
    cases h1 : (evA t x).cells? with
    | none => rw [h1] at h; cases h
    | some zs =>
      cases h2 : partsA t st ps with
      | none => rw [h1, h2] at h; cases h
      | some qs' =>
        rw [h1, h2] at h
        simp only [] at h
        split at h
        · rename_i hl
          injection h with h
          subst h
          obtain ⟨h3, h4⟩ := parts_rep hm ps qs' h2
          refine ⟨by simpa using h3, fun j p q hp hq => ?_⟩
          cases j with
          | zero =>
            simp at hp hq
            subst hp hq
            obtain ⟨g1, g2, g3⟩ := (hm.ev x).cells h1 (fun k g e => live_ow (by rw [← e]; exact hl)) (fun k g o e => live_bx (by rw [← e]; exact hl))
            exact ⟨rfl, g1, g2, g3⟩
          | succ j => exact h4 j p q (by simpa using hp) (by simpa using hq)
        · cases h

/-- The places of a struct's fields. -/
def plI (P : Program) (T : TypeId) : Option (List (Nat × Nat)) := match P.underlying T with
  | some (.struct fs) => fs.toList.mapM fun f => (P.info? f.type).map fun i => (f.offset, i.size)
  | _ => none
theorem run_places {fs : List Field} {pls : List (Nat × Nat)} {w : World} (h : fs.mapM (fun f => (P.info? f.type).map fun i => (f.offset, i.size)) = some pls) : (fs.mapM (fun f => (do pure (f.offset, ← sizeOf f.type) : Sem (Nat × Nat)))).run P w = .ok pls w := by
  induction fs generalizing pls with
  | nil => simp at h; subst h; simp
  | cons f fs ih =>
    rw [List.mapM_cons] at h ⊢
    cases hi : P.info? f.type with
    | none => rw [hi] at h; simp at h
    | some i =>
      cases hm : fs.mapM (fun f => (P.info? f.type).map fun i => (f.offset, i.size)) with
      | none => rw [hi, hm] at h; simp at h
      | some l =>
        rw [hi, hm] at h
        simp at h
        subst h
        have hz : (do pure (f.offset, ← sizeOf f.type) : Sem (Nat × Nat)).run P w = .ok (f.offset, i.size) w := by simp [sizeOf, typeInfo, hi, Sem.run_bind]
        rw [Sem.run_bind, hz, Result.andThen_ok, Sem.run_bind, ih hm]
        rfl
theorem rd_build {T : TypeId} {parts : Array (Nat × Operand)} {pls : List (Nat × Nat)} {zl : List Value} {qs : List (Nat × List AV)} {cs : List AV} (ho : o.op = .build T parts) (hT : plI P T = some pls) (hz : zeroC P T = some zl) (hq : partsA t st parts.toList = some qs) (hf : fillA (fun i => pls[i]?) (zl.map .sc) qs = some cs) : ARd P o t st (.ag cs) := fun F ρ w0 w a hs hm => by
  obtain ⟨h1, h2⟩ := parts_rep hm parts.toList qs hq
  unfold zeroC at hz
  cases hi : P.info? T with
  | none => rw [hi] at hz; cases hz
  | some i =>
    rw [hi] at hz
    cases hzz : i.zero with
    | none => simp [hzz] at hz
    | some zv =>
      simp [hzz] at hz
      obtain ⟨hone, rfl⟩ := hz
      obtain ⟨vs', g1, g2, g3, g4⟩ := fill_rel (R := Rep F ρ st w) (fun i => pls[i]?) (parts.toList.map fun p => (p.1, a.eval p.2)) qs zv.cells (zv.cells.toList.map .sc) cs h1 h2 (by simp) (fun u hu => by
          obtain ⟨j, hj, rfl⟩ := Array.mem_iff_getElem.1 hu
          exact hone j hj) (fun j v x hv hx => by
          simp at hx
          rw [hv] at hx
          simp at hx
          subst hx
          exact .sc v) hf
      refine ⟨.agg vs', .ag vs' cs g2 g3 g4, fun w' _ => ?_⟩
      unfold plI at hT
      split at hT
      · rename_i fs hu
        have hpl := run_places (w := w') hT
        have hpl2 : (fs.mapM (fun f => (do pure (f.offset, ← sizeOf f.type) : Sem (Nat × Nat)))).run P w' = .ok pls.toArray w' := by
          rw [Array.mapM_eq_mapM_toList]
          show Sem.run P (fs.toList.mapM (fun f => (do pure (f.offset, ← sizeOf f.type) : Sem (Nat × Nat))) >>= fun l => pure l.toArray) w' = _
          rw [Sem.run_bind, hpl]
          rfl
        have e : (parts.map fun (i, x) => (i, a.eval x)).toList = parts.toList.map fun p => (p.1, a.eval p.2) := by simp
        simp only [execOp, ho, Instr.build, zeroValue, typeInfo, Sem.run_bind]
        simp only [run_program, hi, hzz, Sem.run_bind, Sem.run_pure, Result.andThen_ok, run_underlying hu, hpl2, e]
        have e2 : (fun i : Nat => (pls.toArray)[i]?) = fun i : Nat => pls[i]? := by funext i; simp
        simp only [e2, g1, Sem.run_pure, Result.andThen_ok]
      · cases hT

/-! make([]T, 0, n) -/
theorem op_make0 {T e sz by_ n : Nat} {lo co : Operand} {kl kc : IntKind} {C : Int} (k : Nat) {tk : TK} (ho : o.op = .makeSlice T lo co) (hT : apI P T = some (e, sz, by_)) (hl : evV t lo = some (.int kl 0)) (hc : evV t co = some (.int kc C)) (hC : C = (n : Int)) (hn : by_ * n ≤ 281474976710656) (hm' : n ≤ 9223372036854775807) (hk : st[k]? = some tk)
    (h : K (.ow k (tk.g + 1)) (st.set k ⟨tk.g + 1, .own e sz []⟩)) : AOpB P o t st K := fun F ρ w0 w a hst hm next Q hnx => by
  obtain ⟨hu, hpos, i, z, hi, hz0, hz1, hz2, hz⟩ := ap_parts hT
  subst hC
  obtain ⟨w', hrun, hown, hg⟩ := run_make_own (P := P) w 0 T e i z sz hu hi hz0 hz1 kl kc n (by rw [hz2]; exact hn) (by unfold maxLen; exact hm') (Nat.zero_le _)
  obtain ⟨ρ', hρ, hs', hmv⟩ := hst.regrow (row := none) hk (fun b e => by cases e) hg (.inr rfl) (hown.lt _ rfl).2 e sz n [] ⟨[], hown, hpos, by simp, fun i cs h => by simp at h, fun i j cs v z h => by simp at h⟩
  have hrun2 : (execOp a.eval o).run P w = .ok (.value (.slice (some ⟨w.heap.size, 0, none⟩) 0 n)) w' := by
    simp only [execOp, ho, hm.val hl, hm.val hc, Sem.run_bind, hrun, Result.andThen_ok, Sem.run_pure]
  unfold Oper.wp
  rw [hrun2]
  have hk2 : (st.set k ⟨tk.g + 1, .own e sz []⟩)[k]? = some ⟨tk.g + 1, .own e sz []⟩ := by rw [List.getElem?_set_self (List.getElem?_eq_some_iff.1 hk).1]
  have hrep := Rep.ow (F := F) (ρ := ρ') (w := w') k (tk.g + 1) e sz [] hk2
  rw [hρ] at hrep
  exact hnx _ w' ρ' _ _ hs' hmv hrep (below_of_grown hg) h

/-! A slice that is nil, as an own one that will grow. -/
theorem AL.nil_own {ops : Array Oper} {K : List AV → List TK → Prop} {l : List Oper} (d k : Nat) {tk : TK} (el sz : Nat) (hd : evA t (.tmp d) = .sc (.slice none 0 0)) (hk : st[k]? = some tk) (h : AL P ops K l (t.set d (.ow k (tk.g + 1))) (st.set k ⟨tk.g + 1, .nown el sz⟩)) : AL P ops K l t st := fun F ρ w0 w a hs hm => by
  have hklt := (List.getElem?_eq_some_iff.1 hk).1
  have hmv : Mv F ρ st w ρ (st.set k ⟨tk.g + 1, .nown el sz⟩) w := Mv.upd hk (fun _ _ => rfl) (fun b o hf ho => ⟨fun h => h, ho⟩) (.inr (.inl (Nat.lt_succ_self _)))
  have hs' : St F ρ (st.set k ⟨tk.g + 1, .nown el sz⟩) w0 w := hs.upd hk (fun _ _ => rfl) hs.below (Nat.le_refl _) hmv (fun _ _ _ _ _ _ => rfl) (fun b hf => hf.elim) (fun j q b hj hq hf hf' => hf') (fun ty cs e => by cases e) (fun el' sz' xs' e => by cases e) (fun p e => by cases e)
  refine h F ρ w0 w a hs' ?_
  have hm' := hm.mv hmv
  have hval : a.eval (.tmp d) = .slice none 0 0 := by have := hm.ev (.tmp d); rw [hd] at this; exact this.of_sc
  refine ⟨hm'.defers, by simp [hm'.size], fun i v x hv hx => ?_⟩
  rw [List.getElem?_set] at hx
  split at hx
  · rename_i e
    subst e
    split at hx
    · injection hx with hx
      subst hx
      have : v = .slice none 0 0 := by
        rw [← hval]
        simp [Act.eval, hv]
      subst this
      exact .ow0 k _ el sz (by rw [List.getElem?_set_self hklt])
    · cases hx
  · exact hm'.rep i v x hv hx

theorem RepS.of_sc {F : Nat → Prop} {w : World} {v u : Value} (h : RepS F w v (.sc u)) : v = u := by cases h; rfl
/-! Bytes and strings. -/
def byA (l : List UInt8) : List (List AV) := l.map fun b => [.sc (bv b)]
theorem str_cells {w : World} {A : Option Addr} {c : Nat} {l : List UInt8} (h : 0 < l.length → ∃ b off, A = some ⟨b, off, none⟩ ∧ ∀ (j : Nat) (v : Value), (bvs l)[j]? = some v → w.cell? ⟨b, off + j, none⟩ = some v) {src dst e : TypeId} (hs : P.underlying src = some (.slice e)) (he : P.underlying e = some (.int .u8)) (hd : P.underlying dst = some .string) :
    (convert src dst (.slice A l.length c)).run P w = .ok (sv l) w := by
  rw [run_convert_bytes_string w _ _ _ A l.length c hs he hd]
  have e' : bvs l = (l.map fun b => ((b.toNat : Nat) : Int)).map (Value.int .u8) := by simp [bvs, bv]
  have fold : ∀ (l : List UInt8) (s : ByteArray), (l.map fun b => ((b.toNat : Nat) : Int)).foldl (fun r n => r.push (UInt8.ofNat n.toNat)) s = ⟨s.data ++ l.toArray⟩ := by
    intro l
    induction l with
    | nil => intro s; simp
    | cons b l ih =>
      intro s
      rw [List.map_cons, List.foldl_cons, ih]
      congr 1
      apply Array.ext'
      simp [ByteArray.push]
  rcases Nat.eq_zero_or_pos l.length with h0 | h0
  · have hl : l = [] := List.eq_nil_of_length_eq_zero h0
    subst hl
    cases A with
    | none => simp [Conv.bytesToString]; rfl
    | some ad =>
      show Sem.run P (Conv.bytesToString (.slice (some ad) 0 c)) w = _
      rw [run_bytesToString w ad 0 c [] (by simp [loadCells, loadCellsFrom])]
      rfl
  · obtain ⟨b, off, rfl, hc⟩ := h h0
    have hload := run_loadCells_list (P := P) w ⟨b, off, none⟩ (bvs l) (fun j v hv => by rw [Addr.add_mid]; exact hc j v hv)
    rw [bvs_len] at hload
    rw [run_bytesToString w _ l.length c _ (by rw [← e']; exact hload), fold]
    rw [show ByteArray.empty.data = #[] from rfl, Array.empty_append]
def b2s (P : Program) (src dst : TypeId) : Bool := match P.underlying src, P.underlying dst with
  | some (.slice e), some .string => match P.underlying e with | some (.int .u8) => true | _ => false
  | _, _ => false
theorem b2s_parts {src dst : TypeId} (h : b2s P src dst = true) : ∃ e, P.underlying src = some (.slice e) ∧ P.underlying e = some (.int .u8) ∧ P.underlying dst = some .string := by
  unfold b2s at h
  split at h
  · rename_i e h1 h2
    split at h
    · rename_i h3; exact ⟨e, h1, h3, h2⟩
    · cases h
  · cases h
theorem rd_b2s {src dst : TypeId} {l : List UInt8} (ho : o.op = .convert src dst x) (hT : b2s P src dst = true) (hx : Src t st x 1 (byA l)) : ARd P o t st (.sc (sv l)) := fun F ρ w0 w a hs hm => ⟨_, .sc _, fun w' hb => by
  obtain ⟨e, h1, h2, h3⟩ := b2s_parts hT
  obtain ⟨A, c, news, he, hn1, hn2, hn3, hn4, hn5, hn6⟩ := hx F ρ w0 w a hs hm
  have hlen : (byA l).length = l.length := by simp [byA]
  rw [hlen] at he hn1
  have hnews : news = bvs l := by
    apply List.ext_getElem?
    intro j
    rcases Nat.lt_or_ge j l.length with hj | hj
    · have hj' : j < news.length := by omega
      have h4 := hn3 j 0 [.sc (bv l[j])] news[j] (.sc (bv l[j])) (by simp [byA, hj]) rfl (by rw [Nat.mul_one, Nat.add_zero]; exact List.getElem?_eq_getElem hj')
      rw [List.getElem?_eq_getElem hj']
      rw [h4.of_sc]
      simp [bvs, hj]
    · rw [List.getElem?_eq_none (by omega), List.getElem?_eq_none (by rw [bvs_len]; omega)]
  subst hnews
  have hrun := str_cells (P := P) (w := w') (A := A) (c := c) (l := l) (fun h0 => by
    cases A with
    | none => have := hn5 rfl; simp [byA] at this; subst this; simp at h0
    | some ad =>
      obtain ⟨b, off, e1, _⟩ := hn6 0 (bv (l[0]'h0)) (by simp [bvs, h0])
      refine ⟨b, off, e1, fun j v hj => ?_⟩
      obtain ⟨b2, off2, e2, hc⟩ := hn6 j v hj
      rw [e1] at e2
      injection e2 with e2
      injection e2 with e3 e4
      subst e3 e4
      rw [hb.cell (p := ⟨b, off + j, none⟩) (block_lt_of_cell hc), hc]) h1 h2 h3
  simp only [execOp, ho, he, Sem.run_bind, hrun, Result.andThen_ok, Sem.run_pure]⟩
end
end Go.Proofs.Ytgjpeldgjpgbcaa
