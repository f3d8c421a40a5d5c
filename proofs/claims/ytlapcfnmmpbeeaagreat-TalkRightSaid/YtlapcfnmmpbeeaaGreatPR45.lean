/- Texts of the proof of talkRight_holds, put together by a program: Kp2. -/
import Derived.Test.YtlapcfnmmpbeeaaGreatPR42
set_option linter.unusedSimpArgs false
set_option linter.unusedVariables false
namespace Go.Proofs.YtlapcfnmmpbeeaaGreat
set_option maxRecDepth 100000
open Go.RowKit
theorem Mv.thenK {F : Nat → Prop} {ρ ρ' ρ2 : Loc} {st st' st2 : List TK} {w w' w2 : World} (h : Mv F ρ st w ρ' st' w') (k : Mv F ρ' st' w' ρ2 st2 w2) : Mv F ρ st w ρ2 st2 w2 := ⟨fun b o hf ho => (h.free b o hf ho).elim fun a c => k.free b o a c, fun q tk hq => by
  obtain ⟨tk', h1, h2⟩ := h.tk q tk hq
  obtain ⟨tk2, k1, k2⟩ := k.tk q tk' h1
  exact ⟨tk2, k1, TkR.trans (b := tk') (m := ρ' q) h2 k2⟩⟩
section
variable {P : Program} {o : Oper} {ops : Array Oper} {K : List AV → List TK → Prop} {l : List Oper} {t : List AV} {st : List TK} {x y : Operand} {z : AV} {zs : List AV} {k g off el sz : Nat} {xs : List (List AV)}
def AOpF (P : Program) (o : Oper) (t : List AV) (st : List TK) (K : List AV → List TK → Prop) : Prop :=
  ∀ F ρ w0 w a, St F ρ st w0 w → Fm F ρ st w a t → ∀ (next : Act → World → Prop) (Q : Exit → Act → World → Prop), (∀ a' w' ρ' t' st', St F ρ' st' w0 w' → Mv F ρ st w ρ' st' w' → Fm F ρ' st' w' a' t' → K t' st' → next a' w') → o.wp P a w next Q
theorem ADB.mvF {fuel : Nat} {listed : Array Bool} (i : Nat) (hi : l[i]? = some o) (h : AOpF P o t st fun t' st' => ADB P l K fuel (listed.setIfInBounds i true) t' st') (hr : Region.ready .any l.toArray listed = [i] := by kernel_rfl) (hw : WantA l.toArray o t true := by rfl) : ADB P l K (fuel + 1) listed t st := fun F ρ w0 w a B hs hB hm Q hq => by
  refine wpAnyH_all hr (by simp) fun j hj => ?_; obtain rfl : j = i := by simpa using hj
  unfold wpOp
  have hi' : l.toArray[j]? = some o := by simpa using hi
  simp only [hi', hw.run hm, if_true]
  exact .inl (h F ρ ⟨w, ρ, st⟩ w a hs.self hm _ (NoPanic Q) fun a' w' ρ' t' st' h1 h2 h3 h4 => ⟨(hB.rebase h1).below, h4 F ρ' w0 w' _ B (hs.rebase h1) (hB.rebase h1) h3 Q hq⟩)
theorem op_store_own2 {ty : TypeId} (d d2 kb jb i : Nat) {gb : Nat} {bt : TypeId} {bs : List AV} (hd2 : t[d2]? = some (.ow k g)) (hbx : st[kb]? = some ⟨gb, .box bt bs⟩) (hjb : bs[jb]? = some (.ow k g)) (hdst : o.dst = none) (ho : o.op = .store ty x y) (hx : evA t x = .bx k g off) (hd : t[d]? = some (.ow k g)) (hk : st[k]? = some ⟨g, .own el sz xs⟩) (hy : evA t y = z) (hz : z.cells? = some zs) (hl : liveA st z = true) (hsc : zs.all flB = true) (hT : szT P ty = some zs.length) (hlen : zs.length = sz) (hoff : off = i * sz) (hi : i < xs.length)
    (h : K ((t.set d (.ow k (g + 1))).set d2 (.ow k (g + 1))) ((st.set k ⟨g + 1, .own el sz (xs.set i zs)⟩).set kb ⟨gb, .box bt (bs.set jb (.ow k (g + 1)))⟩)) : AOpF P o t st K := fun F ρ w0 w a hs hm nx Q hnx => by
  have hklt := (List.getElem?_eq_some_iff.1 hk).1
  have hp := hm.ev x
  rw [hx] at hp
  have hv := hp.bo_inv hk
  have hr := hm.ev y
  rw [hy] at hr
  obtain ⟨h1, h2, h3⟩ := hr.cells hz (fun k g e => live_ow (by rw [← e]; exact hl)) (fun k g o e => live_bx (by rw [← e]; exact hl))
  obtain ⟨vs, g1, g2, g3, g4, g5⟩ := hs.own k g el sz xs hk
  obtain ⟨hvl, hrow⟩ := g1
  rcases hrow with ⟨e, _⟩ | ⟨g', cap, cur, e, _, c1, c2, cm, c3, c4⟩
  · cases e
  injection e with e1 _ e3
  injection e1 with e1
  injection e1 with e1
  subst e1 e3
  obtain ⟨us, hus⟩ : ∃ us, us = (a.eval y).cells.toList := ⟨_, rfl⟩
  have hul : us.length = sz := by rw [hus, Array.length_toList, h1, hlen]
  have hb : i * sz + sz ≤ xs.length * sz := by rw [← Nat.succ_mul]; exact Nat.mul_le_mul_right _ hi
  have hcs : xs.length * sz ≤ cur.size := by rw [c3]; exact Nat.mul_le_mul_right _ c2
  have hfr : ∀ b ob, Free F ρ st b → w.heap[b]? = some ob → Free F ρ st b ∧ (w.setCells (ρ k).1 off us).heap[b]? = some ob := fun b ob hf ho => ⟨hf, (heap_setCells_other (fun e => hf.2 k _ hk e.symm) us off w).trans ho⟩
  have hth : w.there (ρ k).1 off (a.eval y).cells.size := fun j hj => by
    have hlt : off + j < cur.size := by rw [h1] at hj; omega
    refine ⟨?_, ?_⟩
    · rw [cell_of_row _ _ _ _ _ _ c1, Array.getElem?_eq_getElem hlt]; rfl
    · simp [World.frozen?, c1]
  have hst : (storeVar ty ⟨(ρ k).1, off, none⟩ (a.eval y)).run P w = .ok () (w.setCells (ρ k).1 off us) := by
    rw [hus]
    exact run_storeVar_mid w (ρ k).1 off ty (a.eval y).cells hth (by unfold szT at hT; rw [hT, h1]) (by rw [Array.all_eq_true_iff_forall_mem]; exact h2)
  have hrun : (execOp a.eval o).run P w = .ok .skip (w.setCells (ρ k).1 off us) := by
    simp only [execOp, ho, hv, Instr.storeAt, Instr.sureAddr, Sem.run_bind, Sem.run_pure, Result.andThen_ok, hst]
  have hget : ∀ q, (splV cur off us)[q]? = if off ≤ q ∧ q < off + us.length then us[q - off]? else cur[q]? := fun q => splV_get us cur off q (by omega)
  have hval : ∀ q v, q < xs.length * sz → (splV cur off us)[q]? = some v → (off ≤ q ∧ q < off + sz ∧ us[q - off]? = some v) ∨ (¬ (off ≤ q ∧ q < off + sz) ∧ vs[q]? = some v) := fun q v hq hqv => by
    rw [hget, hul] at hqv
    split at hqv
    · rename_i h'; exact .inl ⟨h'.1, h'.2, hqv⟩
    · rename_i h'
      refine .inr ⟨h', ?_⟩; rw [← c4, List.getElem?_take, if_pos hq, Array.getElem?_toList]; exact hqv
  have hsz : (splV cur off us).toList.length = cur.size := by rw [Array.length_toList, splV_size]
  have hlen' : (xs.set i zs).length = xs.length := List.length_set
  have hown : ∃ us' : List Value, (w.setCells (ρ k).1 off us).ownsRow 0 el sz (.slice (some ⟨(ρ k).1, 0, none⟩) (xs.set i zs).length (ρ k).2) (xs.set i zs).length us' ∧ 0 < sz ∧ (∀ v ∈ us', v.oneCell' = true) ∧ (∀ (i' : Nat) (cs : List AV), (xs.set i zs)[i']? = some cs → cs.length = sz) ∧ ∀ (i' j : Nat) (cs : List AV) v x, (xs.set i zs)[i']? = some cs → cs[j]? = some x → us'[i' * sz + j]? = some v → RepS (Free F ρ st) w v x := by
    refine ⟨(splV cur off us).toList.take (xs.length * sz), ⟨by rw [hlen', List.length_take, hsz]; omega, .inr ⟨(ρ k).1, (ρ k).2, splV cur off us, by rw [hlen'], Nat.zero_le _, heap_setCells_same us off w cur c1, by rw [hlen']; exact c2, cm, by rw [splV_size]; exact c3, by rw [hlen']⟩⟩, g2, fun v hv => ?_, fun i' cs hcs' => ?_, fun i' j cs v x' hcs' hj hv' => ?_⟩
    · obtain ⟨q, hq⟩ := List.getElem?_of_mem hv
      rw [List.getElem?_take] at hq
      split at hq
      · rename_i hql
        rw [Array.getElem?_toList] at hq
        rcases hval q v hql hq with ⟨_, _, h'⟩ | ⟨_, h'⟩
        · have := List.mem_of_getElem? h'
          rw [hus] at this
          exact h2 _ (by simpa using this)
        · exact g3 _ (List.mem_of_getElem? h')
      · cases hq
    · rw [List.getElem?_set] at hcs'
      by_cases e : i = i'
      · rw [if_pos e, if_pos hi] at hcs'
        injection hcs' with e; rw [← e]; exact hlen
      · rw [if_neg e] at hcs'
        exact g4 i' cs hcs'
    · rw [List.getElem?_set] at hcs'
      have hjl := (List.getElem?_eq_some_iff.1 hj).1
      by_cases e : i = i'
      · rw [if_pos e, if_pos hi] at hcs'
        subst e
        injection hcs' with e
        subst e
        rw [hlen] at hjl
        have hlt : i * sz + j < xs.length * sz := by omega
        rw [List.getElem?_take, if_pos hlt, Array.getElem?_toList] at hv'
        rcases hval _ _ hlt hv' with ⟨_, _, h'⟩ | ⟨h', _⟩
        · rw [hoff, Nat.add_sub_cancel_left, hus] at h'
          have hfx : flB x' = true := List.all_eq_true.1 hsc _ (List.mem_of_getElem? hj)
          exact (h3 j v x' (by simpa using h') hj).flB_s hfx
        · exact absurd ⟨by omega, by omega⟩ h'
      · rw [if_neg e] at hcs'
        have hi' := (List.getElem?_eq_some_iff.1 hcs').1
        rw [g4 i' cs hcs'] at hjl
        have hlt : i' * sz + j < xs.length * sz := by
          have := Nat.mul_le_mul_right sz (show i' + 1 ≤ xs.length by omega)
          rw [Nat.succ_mul] at this
          omega
        rw [List.getElem?_take, if_pos hlt, Array.getElem?_toList] at hv'
        rcases hval _ _ hlt hv' with ⟨h5, h6, _⟩ | ⟨_, h'⟩
        · exact absurd ⟨by rw [← hoff]; exact h5, by rw [← hoff]; exact h6⟩ (seg_ne hjl (fun q => e q.symm))
        · exact g5 i' j cs v x' hcs' hj h'
  obtain ⟨ρ', hρ, hs', hmv⟩ := hs.regrow (row := some (ρ k).1) (g' := (ρ k).1) hk (fun b e => by injection e with e; exact ⟨by simp, e.symm⟩) (grown_setCells _ us w off) (.inl ⟨by simp, rfl⟩) (Nat.lt_of_lt_of_le (Array.getElem?_eq_some_iff.1 c1).1 (grown_setCells _ us w off).size) el sz (ρ k).2 (xs.set i zs) hown
  have hrep : Rep F ρ' (st.set k ⟨g + 1, .own el sz (xs.set i zs)⟩) (w.setCells (ρ k).1 off us) (.slice (some ⟨(ρ k).1, 0, none⟩) xs.length (ρ k).2) (.ow k (g + 1)) := by
    have h9 := Rep.ow (F := F) (ρ := ρ') (w := w.setCells (ρ k).1 off us) k (g + 1) el sz (xs.set i zs) (by rw [List.getElem?_set_self hklt])
    rw [hρ, hlen'] at h9
    exact h9
  have hnk : kb ≠ k := fun e => by subst e; rw [hk] at hbx; injection hbx with e; injection e with _ e; cases e
  have hbx' : (st.set k ⟨g + 1, .own el sz (xs.set i zs)⟩)[kb]? = some ⟨gb, .box bt bs⟩ := by rw [List.getElem?_set_ne (fun e => hnk e.symm)]; exact hbx
  obtain ⟨vb, b1, b2, b3, b4⟩ := hs.box kb gb bt bs hbx
  obtain ⟨vb', b1', b2', b3', b4'⟩ := hs'.box kb gb bt bs hbx'
  have hρb : (ρ' kb).1 = (ρ kb).1 := by
    obtain ⟨tk', q1, q2⟩ := hmv.tk kb _ hbx
    rw [hbx'] at q1
    injection q1 with q1
    subst q1
    rcases q2 with ⟨_, q⟩ | q | ⟨_, q⟩ | ⟨_, q, _⟩
    · rw [q]
    · exact absurd q (Nat.lt_irrefl _)
    · cases q
    · exact q
  have hneb : (ρ kb).1 ≠ (ρ k).1 := fun e => hnk (hs.injB kb _ k _ hbx trivial hk trivial e)
  have hvb : vb' = vb := by
    have q := (heap_setCells_other hneb us off w).trans b1
    rw [hρb] at b1'
    rw [q] at b1'
    injection b1' with b1'
    injection b1' with b1'
    exact b1'.symm
  subst hvb
  obtain ⟨hs2, hmv2⟩ := hs'.reboxW hbx' (cs' := bs.set jb (.ow k (g + 1))) vb' b1' (by simp [b2]) b3 (fun j v x' hv hx' => by
    rw [List.getElem?_set] at hx'
    split at hx'
    · rename_i e
      subst e
      split at hx'
      · injection hx' with hx'
        subst hx'
        rw [(b4 jb v _ hv hjb).ow_inv hk]
        exact hrep
      · cases hx'
    · exact b4' j v x' hv hx')
  have hm' : Fm F ρ' ((st.set k ⟨g + 1, .own el sz (xs.set i zs)⟩).set kb ⟨gb, .box bt (bs.set jb (.ow k (g + 1)))⟩) (w.setCells (ρ k).1 off us) a ((t.set d (.ow k (g + 1))).set d2 (.ow k (g + 1))) := by
    have hmm := (hm.mv hmv).mv hmv2
    refine ⟨hmm.defers, by simp [hmm.size], fun q v x' hq hx' => ?_⟩; rw [List.getElem?_set] at hx'
    split at hx'
    · rename_i e
      subst e
      split at hx'
      · injection hx' with hx'
        subst hx'
        rw [(hm.rep d2 v _ hq hd2).ow_inv hk]
        exact hrep.mv hmv2
      · cases hx'
    · rw [List.getElem?_set] at hx'
      split at hx'
      · rename_i e
        subst e
        split at hx'
        · injection hx' with hx'
          subst hx'
          rw [(hm.rep d v _ hq hd).ow_inv hk]
          exact hrep.mv hmv2
        · cases hx'
      · exact hmm.rep q v x' hq hx'
  unfold Oper.wp
  rw [hrun]
  have e : a.put o.dst undef = a := by rw [hdst]; rfl
  show nx (a.put o.dst undef) (w.setCells (ρ k).1 off us)
  rw [e]
  exact hnx _ _ ρ' _ _ hs2 (hmv.thenK hmv2) hm' h
theorem AW.own_raw2 {c : Code} {Q : APost} {q G : Nat} {M : RM} (d kb jb : Nat) {gb : Nat} {bt : TypeId} {bs : List AV} (hd : t[d]? = some (.ow k g)) (hbx : st[kb]? = some ⟨gb, .box bt bs⟩) (hjb : bs[jb]? = some (.ow k g)) (hk : st[k]? = some ⟨g, .own el sz xs⟩) (hq : st[q]? = some ⟨G, .obj (RawP M)⟩) (h : ∀ b c' vs, M b = none → c' ≤ maxLen → vs.size = c' * sz → xs.length ≤ c' → (∀ (i : Nat) (cs : List AV), xs[i]? = some cs → cs.length = sz) → (∀ (i : Nat) (cs : List AV) (j : Nat) (u : Value), xs[i]? = some cs → cs[j]? = some (.sc u) → vs[i * sz + j]? = some u) → (∀ (i : Nat) (cs : List AV) (j : Nat), xs[i]? = some cs → cs[j]? = some (.sl []) → ∃ A c, vs[i * sz + j]? = some (.slice A 0 c) ∧ c ≤ maxLen) → AW P c Q (t.set d (.sc (.slice (some ⟨b, 0, none⟩) xs.length c'))) (((st.set k ⟨g, .off⟩).set q ⟨G, .obj (RawP (M.set b (el, vs)))⟩).set kb ⟨gb, .box bt (bs.set jb (.sc (.slice (some ⟨b, 0, none⟩) xs.length c')))⟩)) : AW P c Q t st := fun F ρ w0 w a hs hm => by
  obtain ⟨vs, ρ', a1, a0, a2, a3, a4, a5, a8, a6, a7⟩ := hs.own_raw hk hq
  have hnk : kb ≠ k := fun e => by subst e; rw [hk] at hbx; injection hbx with e; injection e with _ e; cases e
  have hnq : kb ≠ q := fun e => by subst e; rw [hq] at hbx; injection hbx with e; injection e with _ e; cases e
  have hbx' : ((st.set k ⟨g, .off⟩).set q ⟨G, .obj (RawP (M.set (ρ k).1 (el, vs)))⟩)[kb]? = some ⟨gb, .box bt bs⟩ := by rw [List.getElem?_set_ne (fun e => hnq e.symm), List.getElem?_set_ne (fun e => hnk e.symm)]; exact hbx
  obtain ⟨vb, b1, b2, b3, b4⟩ := hs.box kb gb bt bs hbx
  obtain ⟨vb', b1', b2', b3', b4'⟩ := a6.box kb gb bt bs hbx'
  have hρb : (ρ' kb).1 = (ρ kb).1 := by
    obtain ⟨tk', q1, q2⟩ := a7.tk kb _ hbx
    rw [hbx'] at q1
    injection q1 with q1
    subst q1
    rcases q2 with ⟨_, q⟩ | q | ⟨_, q⟩ | ⟨_, q, _⟩
    · rw [q]
    · exact absurd q (Nat.lt_irrefl _)
    · cases q
    · exact q
  have hvb : vb' = vb := by
    rw [hρb, b1] at b1'
    injection b1' with b1'
    injection b1' with b1'
    exact b1'.symm
  subst hvb
  obtain ⟨hs2, hmv2⟩ := a6.reboxW hbx' (cs' := bs.set jb (.sc (.slice (some ⟨(ρ k).1, 0, none⟩) xs.length (ρ k).2))) vb' b1' (by simp [b2]) b3 (fun j v x' hv hx' => by
    rw [List.getElem?_set] at hx'
    split at hx'
    · rename_i e
      subst e
      split at hx'
      · injection hx' with hx'
        subst hx'
        rw [(b4 jb v _ hv hjb).ow_inv hk]
        exact .sc _
      · cases hx'
    · exact b4' j v x' hv hx')
  exact h _ _ vs a1 a0 a2 a3 a4 a5 a8 F ρ' w0 w a hs2 ((hm.own_raw d hd hk a7 rfl rfl).mv hmv2)
end
end Go.Proofs.YtlapcfnmmpbeeaaGreat
