/- Reads of free data, taken first in regions of drawn order. No conditions. -/
import Derived.Test.YtdgcbhihmnhnaaaMb
namespace Go.Proofs.Ytdgcbhihmnhnaaa
set_option linter.unusedSimpArgs false
set_option linter.unusedVariables false
open Go.RowKit

section
variable {P : Program} {o : Oper} {l : List Oper} {t : List AV} {st : List TK} {K : List AV → List TK → Prop} {x : Operand} {z : AV} {fuel : Nat} {listed : Array Bool}
/-- A text of bytes that is read is the same at whatever world that leaves free data alone. -/
theorem rdA_b2s {src dst : TypeId} {bs : List UInt8} (ho : o.op = .convert src dst x) (hT : b2s P src dst = true) (hx : evA t x = .sl (byA bs)) : ARdA P o t st (.sc (sv bs)) := fun F ρ w0 w a hs hm => ⟨_, .sc _, fun w' hb => by
  obtain ⟨e, h1, h2, h3⟩ := b2s_parts hT
  have h := hm.ev x
  rw [hx] at h
  have h := h.sl_s
  have hlen : (byA bs).length = bs.length := byA_len bs
  obtain ⟨A, c, he, hcells⟩ : ∃ A c, a.eval x = .slice A bs.length c ∧ (0 < bs.length → ∃ b off, A = some ⟨b, off, none⟩ ∧ ∀ j v, (bvs bs)[j]? = some v → w'.cell? ⟨b, off + j, none⟩ = some v) := by
    generalize hq : a.eval x = q at *
    generalize hxs : byA bs = xs at *
    cases h with
    | sl0 A c hc =>
      have h0 : bs.length = 0 := by rw [← hlen]; rfl
      exact ⟨A, c, by rw [h0], fun h => by omega⟩
    | sl1 b off n c sz V _ hn h0 hnc hc hsz hf hl hv h1' hr =>
      have hnb : n = bs.length := by rw [← hn, hlen]
      subst hnb
      have hg : ∀ i (hi : i < bs.length), xs[i]? = some [.sc (bv bs[i])] := fun i hi => by
        rw [← hxs]
        unfold byA
        rw [List.getElem?_map, List.getElem?_eq_getElem hi]; rfl
      have hs1 : sz = 1 := (hl 0 _ (hg 0 h0)).symm
      subst hs1
      refine ⟨_, c, rfl, fun _ => ⟨b, off, rfl, fun j v hj => ?_⟩⟩
      have hjl : j < bs.length := by have := (List.getElem?_eq_some_iff.1 hj).1; rwa [bvs_len] at this
      have hV : V j 0 = bv bs[j] := by
        have := hr j 0 _ _ (hg j hjl) rfl
        exact (Rep.s (F := F) (ρ := ρ) (st := st) this).of_sc
      have hv2 : v = bv bs[j] := by
        unfold bvs at hj
        rw [List.getElem?_map, List.getElem?_eq_getElem hjl] at hj
        simpa using hj.symm
      have hc2 := hv j 0 hjl (by omega)
      rw [Nat.mul_one, Nat.add_zero, hV] at hc2
      rw [hb.cell (block_lt_of_cell hc2) hf.notM, hc2, hv2]
  have hrun := str_cells (P := P) (w := w') (A := A) (c := c) (l := bs) hcells h1 h2 h3
  simp only [execOp, ho, he, Sem.run_bind, hrun, Result.andThen_ok, Sem.run_pure]⟩
/-- A read of free data may be taken first. -/
theorem ADB.takeA (i : Nat) (hi : l[i]? = some o) (hs : Region.noSelect l.toArray = true) (hf : Region.free .any l.toArray listed i = true) (hr : (Region.ready .any l.toArray listed).contains i = true)
    (hw : WantA l.toArray o t true) (h : ARdA P o t st z) (hk : ADB P l K fuel (listed.setIfInBounds i true) (putA t o.dst z) st) : ADB P l K (fuel + 1) listed t st := fun F ρ w0 w a B hs' hB hm Q hq => by
  obtain ⟨v, h1, h2⟩ := h F ρ w0 w a hs' hm
  refine rb_weaker (S := fun w' => Bel B w') (S' := fun w' => Bel ⟨w, ρ, st⟩ w') (fun w' hw' => ?_) (fuel + 1) listed a w ?_
  · exact ⟨hw'.os.trans hB.below.os, hw'.tape.trans hB.below.tape, hw'.output.trans hB.below.output, Nat.le_trans hB.below.size hw'.size, fun b hb hM => (hw'.block b (Nat.lt_of_lt_of_le hb hB.below.size) fun ⟨k, tk, hk, hbk⟩ => by
      rcases (hB.ge k tk b hk hbk).1.1 with h3 | h3
      · omega
      · exact hM h3).trans (hB.below.block b hb hM)⟩
  · exact wpAnyH_take (by simpa using hi) hs hf hr (fun _ _ _ h => h) (.inl ⟨hw.run hm, h2⟩) (Bel.refl ⟨w, ρ, st⟩) (hk F ρ w0 w _ ⟨w, ρ, st⟩ hs' hs'.self (hm.put _ h1) Q hq)
theorem ADB.ra {t' : List AV} (i : Nat) (hi : l[i]? = some o) (h : ARdA P o t st z) (hw : WantA l.toArray o t true) (hk : ADB P l K fuel (listed.setIfInBounds i true) t' st) (ht : putA t o.dst z = t' := by (try simp only [putA, evA, List.getD_cons_zero, List.getD_cons_succ, List.set_cons_zero, List.set_cons_succ, List.length_map, KR, splA, List.map_cons, List.map_nil, List.length_append, List.length_cons, List.length_nil, List.drop_zero, csS_len, csS_take, csS_drop, csS_app, byA_len, byA_take, byA_drop, byA_app, ← List.map_take, ← List.map_drop, ← List.map_append, List.take_succ_cons, List.take_zero, List.drop_succ_cons, List.cons_append, List.nil_append, Nat.zero_add, Nat.reduceAdd, Nat.reduceMul, Nat.add_zero, Nat.mul_one, putT, renT, renC_owM, renC_box, renC_own, renC_nown, renC_obj, renC_off, ren2, ren1, ren0, ok1, ok2]); (try rfl)) (hs : Region.noSelect l.toArray = true := by kernel_rfl) (hf : Region.free .any l.toArray listed i = true := by kernel_rfl) (hr : (Region.ready .any l.toArray listed).contains i = true := by kernel_rfl) : ADB P l K (fuel + 1) listed t st := by subst ht; exact ADB.takeA i hi hs hf hr hw h hk
end
end Go.Proofs.Ytdgcbhihmnhnaaa
