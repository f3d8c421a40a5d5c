/- Own slices made at full length; whole elements of own slices written, and the slice kept. No conditions. -/
import Derived.Test.YtdgcbhihmnhnaaaFre
namespace Go.Proofs.Ytdgcbhihmnhnaaa
set_option linter.unusedSimpArgs false
set_option linter.unusedVariables false
set_option maxRecDepth 100000
open Go.RowKit

theorem splV_get : ∀ (us : List Value) (vs : Array Value) (o j : Nat), o + us.length ≤ vs.size → (splV vs o us)[j]? = if o ≤ j ∧ j < o + us.length then us[j - o]? else vs[j]?
  | [], vs, o, j, _ => by
    rw [if_neg (by simp only [List.length_nil]; omega)]; rfl
  | u :: us, vs, o, j, h => by
    simp only [List.length_cons] at h
    show (splV (vs.setIfInBounds o u) (o + 1) us)[j]? = _
    rw [splV_get us _ (o + 1) j (by simp; omega)]
    simp only [List.length_cons, Array.getElem?_setIfInBounds]
    by_cases e : o = j
    · subst e
      rw [if_neg (by omega), if_pos rfl, if_pos (by omega), if_pos (by omega)]
      simp
    · by_cases q : o + 1 ≤ j ∧ j < o + 1 + us.length
      · rw [if_pos q, if_pos (by omega), show j - o = (j - (o + 1)) + 1 by omega]
        rfl
      · rw [if_neg q, if_neg e, if_neg (by omega)]
section
variable {P : Program} {o : Oper} {ops : Array Oper} {K : List AV → List TK → Prop} {l : List Oper} {t : List AV} {st : List TK} {x y : Operand} {z : AV} {zs : List AV} {k g off el sz : Nat} {xs : List (List AV)}
theorem seg_ne {i i' j sz : Nat} (hj : j < sz) (h : i' ≠ i) : ¬ (i * sz ≤ i' * sz + j ∧ i' * sz + j < i * sz + sz) := by
  rcases Nat.lt_or_gt_of_ne h with h | h
  · have := Nat.mul_le_mul_right sz (show i' + 1 ≤ i by omega)
    rw [Nat.succ_mul] at this
    omega
  · have := Nat.mul_le_mul_right sz (show i + 1 ≤ i' by omega)
    rw [Nat.succ_mul] at this
    omega
/-- A whole element of an own slice is written; the slice is kept in one slot. -/
theorem AL.store_own {ty : TypeId} (d i : Nat) (hg : o.guard = none) (hdst : o.dst = none) (ho : o.op = .store ty x y) (hx : evA t x = .bx k g off) (hd : t[d]? = some (.ow k g)) (hk : st[k]? = some ⟨g, .own el sz xs⟩) (hy : evA t y = z) (hz : z.cells? = some zs) (hl : liveA st z = true) (hsc : zs.all flB = true) (hT : szT P ty = some zs.length) (hlen : zs.length = sz) (hoff : off = i * sz) (hi : i < xs.length)
    (h : AL P ops K l (t.set d (.ow k (g + 1))) (st.set k ⟨g + 1, .own el sz (xs.set i zs)⟩)) : AL P ops K (o :: l) t st := fun F ρ w0 w a hs hm Q hq => wpList_plain hg fun nx hnx => by
  have hklt := (List.getElem?_eq_some_iff.1 hk).1
  have hp := hm.ev x
  rw [hx] at hp
  have hv := hp.bo_inv hk
  have hr := hm.ev y
  rw [hy] at hr
  obtain ⟨h1, h2, h3⟩ := hr.cells hz (fun k g e => live_ow (by rw [← e]; exact hl)) (fun k g o e => live_bx (by rw [← e]; exact hl))
  obtain ⟨vs, g1, g2, g3, g4, g5⟩ := hs.own k g el sz xs hk
  obtain ⟨hvl, hrow⟩ := g1
  rcases hrow with ⟨e, _⟩ | ⟨g', cap, cur, e, _, c1, c2, cm, c3, c4⟩
  · cases e
  injection e with e1 _ e3
  injection e1 with e1
  injection e1 with e1
  subst e1 e3
  obtain ⟨us, hus⟩ : ∃ us, us = (a.eval y).cells.toList := ⟨_, rfl⟩
  have hul : us.length = sz := by rw [hus, Array.length_toList, h1, hlen]
  have hb : i * sz + sz ≤ xs.length * sz := by rw [← Nat.succ_mul]; exact Nat.mul_le_mul_right _ hi
  have hcs : xs.length * sz ≤ cur.size := by rw [c3]; exact Nat.mul_le_mul_right _ c2
  have hfr : ∀ b ob, Free F ρ st b → w.heap[b]? = some ob → Free F ρ st b ∧ (w.setCells (ρ k).1 off us).heap[b]? = some ob := fun b ob hf ho => ⟨hf, (heap_setCells_other (fun e => hf.2 k _ hk e.symm) us off w).trans ho⟩
  have hth : w.there (ρ k).1 off (a.eval y).cells.size := fun j hj => by
    have hlt : off + j < cur.size := by rw [h1] at hj; omega
    refine ⟨?_, ?_⟩
    · rw [cell_of_row _ _ _ _ _ _ c1, Array.getElem?_eq_getElem hlt]; rfl
    · simp [World.frozen?, c1]
  have hst : (storeVar ty ⟨(ρ k).1, off, none⟩ (a.eval y)).run P w = .ok () (w.setCells (ρ k).1 off us) := by
    rw [hus]
    exact run_storeVar_mid w (ρ k).1 off ty (a.eval y).cells hth (by unfold szT at hT; rw [hT, h1]) (by rw [Array.all_eq_true_iff_forall_mem]; exact h2)
  have hrun : (execOp a.eval o).run P w = .ok .skip (w.setCells (ρ k).1 off us) := by
    simp only [execOp, ho, hv, Instr.storeAt, Instr.sureAddr, Sem.run_bind, Sem.run_pure, Result.andThen_ok, hst]
  have hget : ∀ q, (splV cur off us)[q]? = if off ≤ q ∧ q < off + us.length then us[q - off]? else cur[q]? := fun q => splV_get us cur off q (by omega)
  have hval : ∀ q v, q < xs.length * sz → (splV cur off us)[q]? = some v → (off ≤ q ∧ q < off + sz ∧ us[q - off]? = some v) ∨ (¬ (off ≤ q ∧ q < off + sz) ∧ vs[q]? = some v) := fun q v hq hqv => by
    rw [hget, hul] at hqv
    split at hqv
    · rename_i h'; exact .inl ⟨h'.1, h'.2, hqv⟩
    · rename_i h'
      refine .inr ⟨h', ?_⟩; rw [← c4, List.getElem?_take, if_pos hq, Array.getElem?_toList]; exact hqv
  have hsz : (splV cur off us).toList.length = cur.size := by rw [Array.length_toList, splV_size]
  have hlen' : (xs.set i zs).length = xs.length := List.length_set
  have hown : ∃ us' : List Value, (w.setCells (ρ k).1 off us).ownsRow 0 el sz (.slice (some ⟨(ρ k).1, 0, none⟩) (xs.set i zs).length (ρ k).2) (xs.set i zs).length us' ∧ 0 < sz ∧ (∀ v ∈ us', v.oneCell' = true) ∧ (∀ (i' : Nat) (cs : List AV), (xs.set i zs)[i']? = some cs → cs.length = sz) ∧ ∀ (i' j : Nat) (cs : List AV) v x, (xs.set i zs)[i']? = some cs → cs[j]? = some x → us'[i' * sz + j]? = some v → RepS (Free F ρ st) w v x := by
    refine ⟨(splV cur off us).toList.take (xs.length * sz), ⟨by rw [hlen', List.length_take, hsz]; omega, .inr ⟨(ρ k).1, (ρ k).2, splV cur off us, by rw [hlen'], Nat.zero_le _, heap_setCells_same us off w cur c1, by rw [hlen']; exact c2, cm, by rw [splV_size]; exact c3, by rw [hlen']⟩⟩, g2, fun v hv => ?_, fun i' cs hcs' => ?_, fun i' j cs v x' hcs' hj hv' => ?_⟩
    · obtain ⟨q, hq⟩ := List.getElem?_of_mem hv
      rw [List.getElem?_take] at hq
      split at hq
      · rename_i hql
        rw [Array.getElem?_toList] at hq
        rcases hval q v hql hq with ⟨_, _, h'⟩ | ⟨_, h'⟩
        · have := List.mem_of_getElem? h'
          rw [hus] at this
          exact h2 _ (by simpa using this)
        · exact g3 _ (List.mem_of_getElem? h')
      · cases hq
    · rw [List.getElem?_set] at hcs'
      by_cases e : i = i'
      · rw [if_pos e, if_pos hi] at hcs'
        injection hcs' with e; rw [← e]; exact hlen
      · rw [if_neg e] at hcs'
        exact g4 i' cs hcs'
    · rw [List.getElem?_set] at hcs'
      have hjl := (List.getElem?_eq_some_iff.1 hj).1
      by_cases e : i = i'
      · rw [if_pos e, if_pos hi] at hcs'
        subst e
        injection hcs' with e
        subst e
        rw [hlen] at hjl
        have hlt : i * sz + j < xs.length * sz := by omega
        rw [List.getElem?_take, if_pos hlt, Array.getElem?_toList] at hv'
        rcases hval _ _ hlt hv' with ⟨_, _, h'⟩ | ⟨h', _⟩
        · rw [hoff, Nat.add_sub_cancel_left, hus] at h'
          have hfx : flB x' = true := List.all_eq_true.1 hsc _ (List.mem_of_getElem? hj)
          exact (h3 j v x' (by simpa using h') hj).flB_s hfx
        · exact absurd ⟨by omega, by omega⟩ h'
      · rw [if_neg e] at hcs'
        have hi' := (List.getElem?_eq_some_iff.1 hcs').1
        rw [g4 i' cs hcs'] at hjl
        have hlt : i' * sz + j < xs.length * sz := by
          have := Nat.mul_le_mul_right sz (show i' + 1 ≤ xs.length by omega)
          rw [Nat.succ_mul] at this
          omega
        rw [List.getElem?_take, if_pos hlt, Array.getElem?_toList] at hv'
        rcases hval _ _ hlt hv' with ⟨h5, h6, _⟩ | ⟨_, h'⟩
        · exact absurd ⟨by rw [← hoff]; exact h5, by rw [← hoff]; exact h6⟩ (seg_ne hjl (fun q => e q.symm))
        · exact g5 i' j cs v x' hcs' hj h'
  obtain ⟨ρ', hρ, hs', hmv⟩ := hs.regrow (row := some (ρ k).1) (g' := (ρ k).1) hk (fun b e => by injection e with e; exact ⟨by simp, e.symm⟩) (grown_setCells _ us w off) (.inl ⟨by simp, rfl⟩) (Nat.lt_of_lt_of_le (Array.getElem?_eq_some_iff.1 c1).1 (grown_setCells _ us w off).size) el sz (ρ k).2 (xs.set i zs) hown
  have hm' : Fm F ρ' (st.set k ⟨g + 1, .own el sz (xs.set i zs)⟩) (w.setCells (ρ k).1 off us) a (t.set d (.ow k (g + 1))) := by
    have hmm := hm.mv hmv
    refine ⟨hmm.defers, by simp [hmm.size], fun q v x' hq hx' => ?_⟩; rw [List.getElem?_set] at hx'
    split at hx'
    · rename_i e
      subst e
      split at hx'
      · injection hx' with hx'
        subst hx'
        have h0 := (hm.rep d v _ hq hd).ow_inv hk
        have hrep := Rep.ow (F := F) (ρ := ρ') (w := w.setCells (ρ k).1 off us) k (g + 1) el sz (xs.set i zs) (by rw [List.getElem?_set_self hklt])
        rw [hρ, hlen'] at hrep
        rw [h0]
        exact hrep
      · cases hx'
    · exact hmm.rep q v x' hq hx'
  unfold Oper.wp
  rw [hrun]
  have e : a.put o.dst undef = a := by rw [hdst]; rfl
  show nx (a.put o.dst undef) (w.setCells (ρ k).1 off us)
  rw [e]
  exact hnx _ _ (h F ρ' w0 _ _ hs' hm' Q hq)
/-- A slice made at full length. -/
theorem op_makeN {KK : AV → List TK → Prop} {T e by_ n : Nat} {lo co : Operand} {kl kc : IntKind} {L C : Int} {zl : List Value} (k : Nat) {tk : TK} (ho : o.op = .makeSlice T lo co) (hT : apI P T = some (e, sz, by_)) (hz : zeroC P e = some zl) (hl : evV t lo = some (.int kl L)) (hc : evV t co = some (.int kc C)) (hL : L = (n : Int)) (hC : C = (n : Int)) (hn : by_ * n ≤ 281474976710656) (hm' : n ≤ 9223372036854775807) (hk : st[k]? = some tk)
    (h : KK (.ow k (tk.g + 1)) (st.set k ⟨tk.g + 1, .own e sz (List.replicate n (zl.map .sc))⟩)) : AOpB P o t st KK := fun F ρ w0 w a hst hm next Q hnx => by
  obtain ⟨hu, hpos, i, z, hi, hz0, hz1, hz2, hzs⟩ := ap_parts hT
  have hzl : z.cells.toList = zl ∧ z.cells.all (·.oneCell') = true := by
    unfold zeroC at hz
    simp only [hi, Option.bind_some, hz0] at hz
    split at hz
    · rename_i q; injection hz with hz; exact ⟨hz, q⟩
    · cases hz
  subst hC
  subst hL
  have hrun := run_make (P := P) w T e i z hu hi hz0 kl kc n n (by omega) (Int.le_refl _) (by rw [hz2, ← Int.natCast_mul]; omega) (by omega)
  simp only [Int.toNat_natCast] at hrun
  rw [hz1] at hrun
  obtain ⟨cur, hcur⟩ : ∃ cur, cur = madeCells z.cells (n * sz) := ⟨_, rfl⟩
  rw [← hcur] at hrun
  have hsize : cur.size = n * sz := by rw [hcur, size_madeCells]
  have hat : ∀ q, q < n * sz → ∃ hq : q % sz < zl.length, cur[q]? = some zl[q % sz] := fun q hq => by
    have hlen : zl.length = sz := by rw [← hzl.1, Array.length_toList, hzs]
    have hq' : q % sz < zl.length := by rw [hlen]; exact Nat.mod_lt _ hpos
    refine ⟨hq', ?_⟩; rw [hcur]
    unfold madeCells
    rw [Array.getElem?_map, Array.getElem?_range, if_pos hq]
    simp only [Option.map_some, hzs]
    have h2 : q % sz < z.cells.size := by rw [hzs]; exact Nat.mod_lt _ hpos
    rw [getElem!_pos z.cells (q % sz) h2]
    congr 1
    simp only [← hzl.1, Array.getElem_toList]
  have hlen : zl.length = sz := by rw [← hzl.1, Array.length_toList, hzs]
  have hone : ∀ v ∈ zl, v.oneCell' = true := fun v hv => by
    rw [← hzl.1] at hv
    exact Array.all_eq_true_iff_forall_mem.1 hzl.2 v (by simpa using hv)
  have hown : ∃ us' : List Value, (w.alloc (.cells cur e)).ownsRow 0 e sz (.slice (some ⟨w.heap.size, 0, none⟩) (List.replicate n (zl.map AV.sc)).length n) (List.replicate n (zl.map AV.sc)).length us' ∧ 0 < sz ∧ (∀ v ∈ us', v.oneCell' = true) ∧ (∀ (i' : Nat) (cs : List AV), (List.replicate n (zl.map AV.sc))[i']? = some cs → cs.length = sz) ∧ ∀ (i' j : Nat) (cs : List AV) v x, (List.replicate n (zl.map AV.sc))[i']? = some cs → cs[j]? = some x → us'[i' * sz + j]? = some v → RepS (Free F ρ st) w v x := by
    refine ⟨cur.toList, ⟨by rw [List.length_replicate, Array.length_toList, hsize], .inr ⟨w.heap.size, n, cur, by rw [List.length_replicate], Nat.zero_le _, heap_alloc_new w _, by rw [List.length_replicate]; exact Nat.le_refl _, by unfold maxLen; exact hm', hsize, by rw [List.length_replicate, ← hsize, ← Array.length_toList, List.take_length]⟩⟩, hpos, fun v hv => ?_, fun i' cs hcs => ?_, fun i' j cs v x hcs hj hv => ?_⟩
    · obtain ⟨q, hq⟩ := List.getElem?_of_mem hv
      have hql := (List.getElem?_eq_some_iff.1 hq).1
      rw [Array.length_toList, hsize] at hql
      obtain ⟨h1, h2⟩ := hat q hql
      rw [Array.getElem?_toList, h2] at hq
      injection hq with hq
      rw [← hq]
      exact hone _ (List.getElem_mem h1)
    · have := List.eq_of_mem_replicate (List.mem_of_getElem? hcs)
      rw [this, List.length_map, hlen]
    · have e1 := List.eq_of_mem_replicate (List.mem_of_getElem? hcs)
      have hi' := (List.getElem?_eq_some_iff.1 hcs).1
      rw [List.length_replicate] at hi'
      subst e1
      rw [List.getElem?_map] at hj
      have hjl : j < sz := by
        rcases Nat.lt_or_ge j zl.length with q | q
        · omega
        · rw [List.getElem?_eq_none q] at hj; cases hj
      have hlt : i' * sz + j < n * sz := by
        have := Nat.mul_le_mul_right sz (show i' + 1 ≤ n by omega)
        rw [Nat.succ_mul] at this
        omega
      obtain ⟨h1, h2⟩ := hat _ hlt
      have hmod : (i' * sz + j) % sz = j := by rw [Nat.mul_add_mod_self_right, Nat.mod_eq_of_lt hjl]
      rw [Array.getElem?_toList, h2] at hv
      injection hv with hv
      subst hv
      simp only [hmod] at *
      rw [List.getElem?_eq_getElem (by omega)] at hj
      injection hj with hj
      subst hj
      exact .sc _
  obtain ⟨ρ', hρ, hs', hmv⟩ := hst.regrow (row := none) (g' := w.heap.size) hk (fun b e => by cases e) (World.grownBy_alloc w _ none) (.inr rfl) (by simp) e sz n (List.replicate n (zl.map .sc)) hown
  have hrun2 : (execOp a.eval o).run P w = .ok (.value (.slice (some ⟨w.heap.size, 0, none⟩) n n)) (w.alloc (.cells cur e)) := by
    simp only [execOp, ho, hm.val hl, hm.val hc, Sem.run_bind, hrun, Result.andThen_ok, Sem.run_pure]
  unfold Oper.wp
  rw [hrun2]
  have hk2 : (st.set k ⟨tk.g + 1, .own e sz (List.replicate n (zl.map .sc))⟩)[k]? = some ⟨tk.g + 1, .own e sz (List.replicate n (zl.map .sc))⟩ := by rw [List.getElem?_set_self (List.getElem?_eq_some_iff.1 hk).1]
  have hrep := Rep.ow (F := F) (ρ := ρ') (w := w.alloc (.cells cur e)) k (tk.g + 1) e sz (List.replicate n (zl.map .sc)) hk2
  rw [hρ, List.length_replicate] at hrep
  exact hnx _ _ ρ' _ _ hs' hmv hrep (below_of_grown (World.grownBy_alloc w _ none)) h
end
end Go.Proofs.Ytdgcbhihmnhnaaa
