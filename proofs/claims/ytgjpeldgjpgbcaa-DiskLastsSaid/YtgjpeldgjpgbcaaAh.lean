/- Walks over abstract states: a region of drawn order that stores into one box. No conditions. -/
import Derived.Test.YtgjpeldgjpgbcaaAg
namespace Go.Proofs.Ytgjpeldgjpgbcaa
set_option linter.unusedSimpArgs false
set_option linter.unusedVariables false
open Go.RowKit

section
variable {P : Program} {K : List AV → List TK → Prop} {o : Oper} {l : List Oper} {t : List AV} {st : List TK} {Q : APost} {x y : Operand} {z : AV} {zs : List AV} {kx : Nat}
def ADX (kx : Nat) (P : Program) (l : List Oper) (K : List AV → List TK → Prop) (fuel : Nat) (listed : Array Bool) (t : List AV) (st : List TK) : Prop :=
  ∀ F ρ w0 w a, St F ρ st w0 w → Fm F ρ st w a t → ∀ Q : Exit → Act → World → Prop, (∀ ρ' t' st' w' a', St F ρ' st' w0 w' → Fm F ρ' st' w' a' t' → K t' st' → Q .normal a' w') → RB P l.toArray Q (some (ρ kx).1) fuel listed a w
def ARdX (kx : Nat) (P : Program) (o : Oper) (t : List AV) (st : List TK) (x : AV) : Prop :=
  ∀ F ρ w0 w a, St F ρ st w0 w → Fm F ρ st w a t → ∃ v, Rep F ρ st w v x ∧ ∀ w', w.grownBy w' (some (ρ kx).1) → (execOp a.eval o).run P w' = .ok (.value v) w'
theorem AW.drawX {id : Nat} (kx : Nat) (hp : P.follows .mixedOrders = true) (h : ADX kx P l (fun t st => Q .normal t st) l.length (Array.replicate l.length false) t st) : AW P (.region id l.toArray true) Q t st := fun F ρ w0 w a hs hm =>
  rb_startg (some (ρ kx).1) hp (h F ρ w0 w.drew a (hs.grow (Below.refl _ _).drew) (hm.mv (Mv.below (Below.refl _ _).drew)) _ fun ρ' t' st' _ _ h1 h2 h3 => ⟨ρ', t', st', h1, h2, h3⟩)
theorem ADX.take {fuel : Nat} {listed : Array Bool} {xx : AV} (i : Nat) (hi : l[i]? = some o) (hs : Region.noSelect l.toArray = true) (hf : Region.free .any l.toArray listed i = true) (hr : (Region.ready .any l.toArray listed).contains i = true) (hw : WantA l.toArray o t true) (h : ARdX kx P o t st xx)
    (hk : ADX kx P l K fuel (listed.setIfInBounds i true) (putA t o.dst xx) st) : ADX kx P l K (fuel + 1) listed t st := fun F ρ w0 w a hs' hm Q hq => by
  obtain ⟨v, h1, h2⟩ := h F ρ w0 w a hs' hm
  exact rb_takeg i hi hs hf hr (hw.run hm) h2 (hk F ρ w0 w _ hs' (hm.put _ h1) Q hq)
theorem ADX.done {fuel : Nat} {listed : Array Bool} (hr : Region.ready .any l.toArray listed = []) (h : K t st) : ADX kx P l K fuel listed t st := fun _ ρ _ w a hs hm _ hq => rb_done hr (hq ρ t st w a hs hm h)
theorem rdX_faddr_bx {s f off k g off0 : Nat} {tc : TC} (ho : o.op = .fieldAddr s x f) (hT : fOff P s f = some off) (hx : evA t x = .bx k g off0) (hk : st[k]? = some ⟨g, tc⟩) (hb : ∃ ty cs, tc = .box ty cs) : ARdX kx P o t st (.bx k g (off0 + off)) := fun F ρ w0 w a hs hm => by
  obtain ⟨ty, cs, rfl⟩ := hb
  have h := hm.ev x
  rw [hx] at h
  have hv := h.bx_inv hk
  refine ⟨.pointer (some ⟨(ρ k).1, off0 + off, none⟩), .bx k g _ ty cs hk, fun w' _ => ?_⟩
  simp only [execOp, ho, hv, Sem.run_bind, run_fieldAt hT, Result.andThen_ok, Sem.run_pure, Addr.add_mid]
theorem St.far {F : Nat → Prop} {ρ : Loc} {w0 : Bs} {w w' : World} (hs : St F ρ st w0 w) {k g g' : Nat} {ty ty' : TypeId} {cs cs' : List AV} (hk : st[k]? = some ⟨g, .box ty cs⟩) (hx : st[kx]? = some ⟨g', .box ty' cs'⟩) (hne : k ≠ kx) (hg : w.grownBy w' (some (ρ kx).1)) (off : Nat) : w'.cell? ⟨(ρ k).1, off, none⟩ = w.cell? ⟨(ρ k).1, off, none⟩ :=
  hg.cell_far ⟨(ρ k).1, off, none⟩ (hs.geB k _ hk trivial).2 fun e => hne (hs.injB k _ kx _ hk trivial hx trivial (by simpa using e))
theorem rdX_load_bx {ty bt : TypeId} {k g off g' : Nat} {ty' : TypeId} {cs cs' : List AV} (ho : o.op = .load ty x) (hT : agN P ty = some none) (hx : evA t x = .bx k g off) (hk : st[k]? = some ⟨g, .box bt cs⟩) (hc : cs[off]? = some z) (hkx : st[kx]? = some ⟨g', .box ty' cs'⟩ := by rfl) (hne : k ≠ kx := by decide) : ARdX kx P o t st z := fun F ρ w0 w a hs hm => by
  have h := hm.ev x
  rw [hx] at h
  have hv := h.bx_inv hk
  obtain ⟨vs, h1, h2, h3, h4⟩ := hs.box k g bt cs hk
  have hlt : off < vs.size := by rw [h2]; exact (List.getElem?_eq_some_iff.1 hc).1
  have hvo := Array.getElem?_eq_getElem hlt
  refine ⟨_, h4 off _ z hvo hc, fun w' hb => ?_⟩
  have hcell : w'.cell? ⟨(ρ k).1, off, none⟩ = some vs[off] := by
    rw [hs.far hk hkx hne hb, cell_of_row _ _ _ _ _ _ h1, hvo]
  simp only [execOp, ho, hv, Sem.run_bind, run_load1 hT hcell, Result.andThen_ok, Sem.run_pure]
theorem rdX_loadN_bx {ty bt : TypeId} {k g off n g' : Nat} {ty' : TypeId} {cs cs' : List AV} (ho : o.op = .load ty x) (hT : agN P ty = some (some n)) (hx : evA t x = .bx k g off) (hk : st[k]? = some ⟨g, .box bt cs⟩) (hc : off + n ≤ cs.length) (hz : (cs.drop off).take n = zs) (hkx : st[kx]? = some ⟨g', .box ty' cs'⟩ := by rfl) (hne : k ≠ kx := by decide) : ARdX kx P o t st (.ag zs) := fun F ρ w0 w a hs hm => by
  have h := hm.ev x
  rw [hx] at h
  have hv := h.bx_inv hk
  obtain ⟨vs, h1, h2, h3, h4⟩ := hs.box k g bt cs hk
  refine ⟨.agg ((vs.toList.drop off).take n).toArray, .ag _ _ ?_ ?_ ?_, fun w' hb => ?_⟩
  · rw [← hz]; simp; omega
  · intro v hv
    have : v ∈ vs.toList := List.mem_of_mem_drop (List.mem_of_mem_take (by simpa using hv))
    exact h3 v (by simpa using this)
  · intro j v x hv hx
    rw [← hz] at hx
    simp only [List.getElem?_toArray, List.getElem?_take, List.getElem?_drop] at hv hx
    split at hv
    · rename_i hj
      rw [if_pos hj] at hx
      exact h4 (off + j) v x (by simpa using hv) hx
    · cases hv
  · have := run_loadN (P := P) hT (b := (ρ k).1) (o := off) (w := w') (cs := (vs.toList.drop off).take n) (by simp; omega) (fun j v hv => by
      rw [hs.far hk hkx hne hb, cell_of_row _ _ _ _ _ _ h1]
      simp only [List.getElem?_take, List.getElem?_drop] at hv
      split at hv
      · simpa using hv
      · cases hv)
    simp only [execOp, ho, hv, Sem.run_bind, this, Result.andThen_ok, Sem.run_pure]
theorem ADX.store {fuel : Nat} {listed : Array Bool} {ty bt : TypeId} {g off : Nat} {cs : List AV} (i : Nat) (hi : l[i]? = some o) (hr : Region.ready .any l.toArray listed = [i]) (hw : WantA l.toArray o t true)
    (ho : o.op = .store ty x y) (hx : evA t x = .bx kx g off) (hk : st[kx]? = some ⟨g, .box bt cs⟩) (hy : evA t y = z) (hz : z.cells? = some zs) (hl : liveA st z = true) (hT : szT P ty = some zs.length) (hle : off + zs.length ≤ cs.length)
    (h : ADX kx P l K fuel (listed.setIfInBounds i true) (putA t o.dst (.sc undef)) (st.set kx ⟨g, .box bt (splA cs off zs)⟩)) : ADX kx P l K (fuel + 1) listed t st := fun F ρ w0 w a hs hm Q hq => by
  have hp := hm.ev x
  rw [hx] at hp
  have hv := hp.bx_inv hk
  have hr' := hm.ev y
  rw [hy] at hr'
  obtain ⟨h1, h2, h3⟩ := hr'.cells hz (fun k g e => live_ow (by rw [← e]; exact hl)) (fun k g o e => live_bx (by rw [← e]; exact hl))
  obtain ⟨vs, g1, g2, g3, g4⟩ := hs.box kx g bt cs hk
  obtain ⟨hs', hmv⟩ := hs.store (off := off) (zs := zs) (us := (a.eval y).cells.toList) hk (by simpa using h1) (fun u hu => h2 u (by simpa using hu)) (fun j u x hu hx => h3 j u x (by simpa using hu) hx)
  have hth : w.there (ρ kx).1 off (a.eval y).cells.size := fun j hj => by
    have hlt : off + j < vs.size := by rw [g2]; omega
    refine ⟨?_, ?_⟩
    · rw [cell_of_row _ _ _ _ _ _ g1, Array.getElem?_eq_getElem hlt]; rfl
    · simp [World.frozen?, g1]
  have hst : (storeVar ty ⟨(ρ kx).1, off, none⟩ (a.eval y)).run P w = .ok () (w.setCells (ρ kx).1 off (a.eval y).cells.toList) :=
    run_storeVar_mid w (ρ kx).1 off ty (a.eval y).cells hth (by unfold szT at hT; rw [hT, h1]) (by rw [Array.all_eq_true_iff_forall_mem]; exact h2)
  have hrun : (execOp a.eval o).run P w = .ok .skip (w.setCells (ρ kx).1 off (a.eval y).cells.toList) := by
    simp only [execOp, ho, hv, Instr.storeAt, Instr.sureAddr, Sem.run_bind, Sem.run_pure, Result.andThen_ok, hst]
  refine rb_moveg i hi hr (hw.run hm) fun k hk => ?_
  unfold Oper.wp
  rw [hrun]
  exact hk _ _ (grown_setCells _ _ _ _) (h F ρ w0 _ _ hs' ((hm.mv hmv).put _ (.sc _)) Q hq)
theorem ADX.n {fuel : Nat} {listed : Array Bool} {t' : List AV} {st' : List TK} (h : ADX kx P l K fuel listed t' st') (ht : t = t' := by (try simp only [putA, evA, List.getD_cons_zero, List.getD_cons_succ, List.set_cons_zero, List.set_cons_succ, List.length_map, KR, splA, List.map_cons, List.map_nil, List.length_append, List.length_cons, List.length_nil, List.drop_zero, csS_len, csS_take, csS_drop, csS_app, byA_len, byA_take, byA_drop, byA_app, ← List.map_take, ← List.map_drop, ← List.map_append, List.take_succ_cons, List.take_zero, List.drop_succ_cons, List.drop_zero, List.cons_append, List.nil_append, Nat.zero_add, Nat.reduceAdd]); (try rfl)) (hs : st = st' := by (try simp only [putA, evA, List.getD_cons_zero, List.getD_cons_succ, List.set_cons_zero, List.set_cons_succ, List.length_map, KR, splA, List.map_cons, List.map_nil, List.length_append, List.length_cons, List.length_nil, List.drop_zero, csS_len, csS_take, csS_drop, csS_app, byA_len, byA_take, byA_drop, byA_app, ← List.map_take, ← List.map_drop, ← List.map_append, List.take_succ_cons, List.take_zero, List.drop_succ_cons, List.drop_zero, List.cons_append, List.nil_append, Nat.zero_add, Nat.reduceAdd]); (try rfl)) : ADX kx P l K fuel listed t st := by subst ht hs; exact h
theorem AL.b {ops : Array Oper} {t' : List AV} {st' : List TK} (h : AL P ops K l t' st') (ht : t = t' := by (try simp only [putA, evA, List.getD_cons_zero, List.getD_cons_succ, List.set_cons_zero, List.set_cons_succ, List.length_map, KR, splA, List.map_cons, List.map_nil, List.length_append, List.length_cons, List.length_nil, List.drop_zero, csS_len, csS_take, csS_drop, csS_app, byA_len, byA_take, byA_drop, byA_app, ← List.map_take, ← List.map_drop, ← List.map_append, List.take_succ_cons, List.take_zero, List.drop_succ_cons, List.drop_zero, List.cons_append, List.nil_append, Nat.zero_add, Nat.reduceAdd]); (try rfl)) (hs : st = st' := by (try simp only [putA, evA, List.getD_cons_zero, List.getD_cons_succ, List.set_cons_zero, List.set_cons_succ, List.length_map, KR, splA, List.map_cons, List.map_nil, List.length_append, List.length_cons, List.length_nil, List.drop_zero, csS_len, csS_take, csS_drop, csS_app, byA_len, byA_take, byA_drop, byA_app, ← List.map_take, ← List.map_drop, ← List.map_append, List.take_succ_cons, List.take_zero, List.drop_succ_cons, List.drop_zero, List.cons_append, List.nil_append, Nat.zero_add, Nat.reduceAdd]); (try rfl)) : AL P ops K l t st := by subst ht hs; exact h
theorem ADX.r {o : Oper} {x : AV} {t' : List AV} {fuel : Nat} {listed : Array Bool} (i : Nat) (hi : l[i]? = some o) (h : ARdX kx P o t st x) (hw : WantA l.toArray o t true) (hk : ADX kx P l K fuel (listed.setIfInBounds i true) t' st) (ht : putA t o.dst x = t' := by (try simp only [Nat.zero_add, Nat.reduceAdd, List.take_succ_cons, List.take_zero, List.drop_succ_cons, putA, evA, List.getD_cons_zero, List.getD_cons_succ, List.set_cons_zero, List.set_cons_succ, List.length_map, KR, splA, List.map_cons, List.map_nil, List.length_append, List.length_cons, List.length_nil, List.drop_zero, csS_len, csS_take, csS_drop, csS_app, byA_len, byA_take, byA_drop, byA_app, ← List.map_take, ← List.map_drop, ← List.map_append]); (try rfl)) (hs : Region.noSelect l.toArray = true := by kernel_rfl) (hf : Region.free .any l.toArray listed i = true := by kernel_rfl) (hr : (Region.ready .any l.toArray listed).contains i = true := by kernel_rfl) : ADX kx P l K (fuel + 1) listed t st := by subst ht; exact ADX.take i hi hs hf hr hw h hk
end
end Go.Proofs.Ytgjpeldgjpgbcaa
