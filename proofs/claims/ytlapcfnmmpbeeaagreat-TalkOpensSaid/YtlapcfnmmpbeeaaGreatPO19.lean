/- A part of a proof. -/
import Derived.Test.YtlapcfnmmpbeeaaGreatPO18
set_option linter.unusedSimpArgs false
set_option linter.unusedVariables false
namespace Go.Proofs.YtlapcfnmmpbeeaaGreat
open Go.RowKit
theorem ADX.stor {kx : Nat} {P : Program} {l : List Oper} {K : List AV → List TK → Prop} {o : Oper} {x y : Operand} {z : AV} {zs : List AV} {t : List AV} {st : List TK} {fuel : Nat} {listed : Array Bool} {ty bt : TypeId} {g off : Nat} {cs : List AV} (i : Nat) (hi : l[i]? = some o) (hr : Region.ready .any l.toArray listed = [i]) (hw : WantA l.toArray o t true)
    (ho : o.op = .store ty x y) (hx : evA t x = .bx kx g off) (hk : st[kx]? = some ⟨g, .box bt cs⟩) (hy : evA t y = z) (hz : z.cells? = some zs) (hT : szT P ty = some zs.length)
    (h : ADX kx P l K fuel (listed.setIfInBounds i true) (putA t o.dst (.sc undef)) (st.set kx ⟨g, .box bt (splA cs off zs)⟩)) (hle : off + zs.length ≤ cs.length := by exact Nat.le_of_ble_eq_true rfl) (hl : jCx st z = true := by rfl) : ADX kx P l K (fuel + 1) listed t st := ADX.store i hi hr hw ho hx hk hy hz hl hT hle h
set_option maxRecDepth 100000
theorem jFH (a b : OpD) : a = b ↔ a.id = b.id ∧ a.schema = b.schema ∧ a.time = b.time ∧ a.cart = b.cart ∧ a.kind = b.kind ∧ a.item = b.item ∧ a.at_ = b.at_ ∧ a.delta = b.delta ∧ a.has = b.has ∧ a.text = b.text ∧ a.drops = b.drops := by
  cases a; cases b; simp
theorem jAP (a b : TagD) : a = b ↔ a.rep = b.rep ∧ a.n = b.n := by cases a; cases b; simp
theorem jDF (a b : RefD) : a = b ↔ a.scope = b.scope ∧ a.group = b.group ∧ a.name = b.name := by cases a; cases b; simp
def jKj (o : OpD) : OpD := ⟨o.id, o.schema, o.time, o.cart, o.kind, if o.at_.scope = 1 then o.item else [], o.at_, o.delta, false, [], []⟩
set_option maxHeartbeats 1000000 in
theorem parts3_c (o : OpD) (h : o.kind = 3) : AC Tryz.prog 75 [o.av] (fun r => r = .s (.tu [(jKj o).av, AB true])) := by
  change AC _ _ [.ag [AI o.id.rep, AI o.id.n, AI o.schema.rep, AI o.schema.n, AI o.time, AS o.cart, AI o.kind, AS o.item, AI o.at_.scope, AS o.at_.group, AS o.at_.name, AI o.delta, AB o.has, AS o.text, .sl (o.drops.map TagD.cs)]] _; refine AC.of' 72 3 Tryz.func75 rfl ?_; change AW _ _ _ _ [TK.mk 0 .off, TK.mk 0 .off, TK.mk 0 .off]; refine AW.g (AL.oq (AOpB.op (oB 0 ?_))); refine AL.n ?_; refine AL.oq (AOpB.op (oA 1 jDs ?_)); refine AL.n ?_; refine AL.ra ?_; refine AL.nil (AW.g (AL.r (qa jEt) ?_)); refine AL.r (qN jAN) ?_; refine AL.r (qa jEp) ?_; refine AL.r (qN jAN) ?_; refine AL.r (qa jDL) ?_; refine AL.r (ql ag_2) ?_; refine AL.r (qa jEE) ?_; refine AL.r (ql ag_9) ?_; refine AL.r (qa jCy) ?_; refine AL.r (ql ag_3) ?_; refine AL.r (qB jHZ jDs) ?_; refine AL.oq (AOpB.op (oA 2 jDs ?_)); refine AL.n ?_; refine AL.oq (oS jCc ?_); refine AL.b ?_; refine AL.nil (AW.seq (AW.g (AL.b ?_))); refine AL.r (qa jCy) ?_; refine AL.r (ql ag_3) ?_; refine AL.nil (AW.block (AW.g (AL.r qb ?_)))
  refine AL.ra ?_; refine AL.nil (AW.cd rfl (fun h19 => ?_) (fun h19 => ?_))
  ·omega
  refine AW.g (AL.r qb ?_); refine AL.ra ?_; refine AL.nil (AW.cd rfl (fun h24 => ?_) (fun h24 => ?_))
  ·omega
  refine AW.g (AL.r qb ?_); refine AL.ra ?_; refine AL.nil (AW.cd rfl (fun h32 => ?_) (fun h32 => ?_))
  ·refine AW.drawX 2 (by kernel_rfl) ?_; refine ADX.r 0 rfl (xa jBR) rfl ?_; refine ADX.r 1 rfl (xN jBa) rfl ?_; refine ADX.r 2 rfl (xa jDe) rfl ?_; refine ADX.r 3 rfl (xl ag_2) rfl ?_; refine ADX.r 4 rfl (xa jBR) rfl ?_; refine ADX.stor 5 rfl (by kernel_rfl) rfl rfl rfl rfl rfl rfl jBw ?_; refine ADX.n ?_; refine ADX.r 6 rfl (xa jDe) rfl ?_; refine ADX.stor 7 rfl (by kernel_rfl) rfl rfl rfl rfl rfl rfl sz_2 ?_; refine ADX.n ?_; refine ADX.done (by kernel_rfl) ?_; change AW _ _ _ _ _; refine AW.seq (AW.g (AL.r (qN jAZ) ?_)); refine AL.oq (AOpB.op (jAb (jDH o) rfl (by kernel_rfl) rfl (none) ?_)); rintro r rfl; refine AL.n ?_; refine AL.rm ?_; refine AL.fk (d := 63) rfl (fun h63 => ?_) (fun h63 => ?_)
   ·refine AL.n ?_; refine AL.ro (qa jBR) ?_; refine AL.ro (qa jB7) ?_; refine AL.ro (ql ag_3) ?_; refine AL.ro qb ?_; refine AL.r qt ?_; refine AL.nil (AW.cd rfl (fun h68 => ?_) (fun h68 => ?_))
    ·refine AW.region (AL.r (qa jBu) ?_); refine AL.r (ql ag_9) ?_; refine AL.r (qa jBu) ?_; refine AL.oq (oS sz_9 ?_); refine AL.b ?_; refine AL.nil (AW.g (AL.r (qN jAZ) ?_)); refine AL.oq (oS jCc ?_); refine AL.b ?_; refine AL.ra ?_; refine AL.nil (AW.ret ?_); refine r2 jAZ ?_; simp_all [jKj, OpD.cs]
    refine AW.skip (AW.g (AL.r (qN jAZ) ?_)); refine AL.oq (oS jCc ?_); refine AL.b ?_; refine AL.ra ?_; refine AL.nil (AW.ret ?_); refine r2 jAZ ?_; simp_all [jKj, OpD.cs]
   refine AL.n ?_; (iterate 4 refine AL.rf ?_); refine AL.r qf ?_; refine AL.nil (AW.cond_f rfl (AW.skip (AW.g (AL.r (qN jAZ) ?_)))); refine AL.oq (oS jCc ?_); refine AL.b ?_; refine AL.ra ?_; refine AL.nil (AW.ret ?_); refine r2 jAZ ?_; simp_all [jKj, OpD.cs]
  refine AW.seq ?_; omega
theorem nl1 {a b : Bool} (h : a = b := by rw [Bool.eq_iff_iff]; simp_all [jFH, jAP, jDF] <;> (intros; simp_all)) : RS.s (AB a) = RS.s (AB b) := sb h
theorem jMc (a b : OpD) : AC Tryz.prog 35 [a.av, b.av] (fun r => r = .s (AB (decide (a = b)))) := by
  refine AC.of' 78 2 Tryz.func35 rfl ?_; change AW _ _ _ _ [TK.mk 0 .off, TK.mk 0 .off]; refine AW.g (AL.oq (AOpB.op (oB 0 ?_))); refine AL.n ?_; refine AL.oq (AOpB.op (oB 1 ?_)); refine AL.n ?_; refine AL.ra ?_; refine AL.nil (AW.g ?_); (iterate 2 (refine AL.r (qa jEt) ?_; refine AL.r (qN jAN) ?_)); refine AL.r (jB9 rfl rfl rfl) ?_; refine AL.rm ?_; refine AL.fk (d := 10) rfl (fun h10 => ?_) (fun h10 => ?_)
  ·refine AL.n ?_; (iterate 2 (refine AL.ro (qa jEp) ?_; refine AL.ro (qN jAN) ?_)); refine AL.ro (jB9 rfl rfl rfl) ?_; refine AL.r qt ?_; refine AL.rm ?_; refine AL.fk (d := 17) rfl (fun h17 => ?_) (fun h17 => ?_)
   ·refine AL.n ?_; (iterate 2 (refine AL.ro (qa jDL) ?_; refine AL.ro (ql ag_2) ?_)); refine AL.ro qb ?_; refine AL.r qt ?_; refine AL.rm ?_; refine AL.fk (d := 24) rfl (fun h24 => ?_) (fun h24 => ?_)
    ·refine AL.n ?_; (iterate 2 (refine AL.ro (qa jEE) ?_; refine AL.ro (ql ag_9) ?_)); refine AL.ro (jBi rfl rfl rfl) ?_; refine AL.r qt ?_; refine AL.rm ?_; refine AL.fk (d := 31) rfl (fun h31 => ?_) (fun h31 => ?_)
     ·refine AL.n ?_; (iterate 2 (refine AL.ro (qa jCy) ?_; refine AL.ro (ql ag_3) ?_)); refine AL.ro qb ?_; refine AL.r qt ?_; refine AL.rm ?_; refine AL.fk (d := 38) rfl (fun h38 => ?_) (fun h38 => ?_)
      ·refine AL.n ?_; (iterate 2 (refine AL.ro (qa jBu) ?_; refine AL.ro (ql ag_9) ?_)); refine AL.ro (jBi rfl rfl rfl) ?_; refine AL.r qt ?_; refine AL.rm ?_; refine AL.fk (d := 45) rfl (fun h45 => ?_) (fun h45 => ?_)
       ·refine AL.n ?_; (iterate 2 (refine AL.ro (qa jBR) ?_; refine AL.ro (qN jBa) ?_)); refine AL.ro (jCW rfl rfl rfl) ?_; refine AL.r qt ?_; refine AL.rm ?_; refine AL.fk (d := 52) rfl (fun h52 => ?_) (fun h52 => ?_)
        ·refine AL.n ?_; (iterate 2 (refine AL.ro (qa jDe) ?_; refine AL.ro (ql ag_2) ?_)); refine AL.ro qb ?_; refine AL.r qt ?_; refine AL.rm ?_; refine AL.fk (d := 59) rfl (fun h59 => ?_) (fun h59 => ?_)
         ·refine AL.n ?_; (iterate 2 (refine AL.ro (qa jDN) ?_; refine AL.ro (ql ag_4) ?_)); refine AL.ro (jNa rfl bo_4 rfl rfl) ?_; refine AL.r qt ?_; refine AL.rm ?_; refine AL.fk (d := 66) rfl (fun h66 => ?_) (fun h66 => ?_)
          ·refine AL.n ?_; (iterate 2 (refine AL.ro (qa jDQ) ?_; refine AL.ro (ql ag_9) ?_)); refine AL.ro (jBi rfl rfl rfl) ?_; refine AL.r qt ?_; refine AL.rm ?_; refine AL.fk (d := 73) rfl (fun h73 => ?_) (fun h73 => ?_)
           ·refine AL.n ?_; (iterate 2 (refine AL.ro (qa jBh) ?_; refine AL.ro (ql jCs) ?_)); refine AL.on rfl rfl rfl (AOpB.op (jAb (jKt a.drops b.drops) rfl (by kernel_rfl) rfl (none) ?_)); rintro r rfl; refine AL.n ?_; refine AL.r qt ?_; refine AL.ra ?_; refine AL.nil (AW.ret (r1t ?_)); exact nl1
           refine AL.n ?_; (iterate 5 refine AL.rf ?_); refine AL.r qf ?_; refine AL.ra ?_; refine AL.nil (AW.ret (r1t ?_)); exact nl1
          refine AL.n ?_; (iterate 5 refine AL.rf ?_); refine AL.r qf ?_; refine AL.rm ?_; (iterate 5 refine AL.rf ?_); refine AL.r qf ?_; refine AL.ra ?_; refine AL.nil (AW.ret (r1t ?_)); exact nl1
         refine AL.n ?_; (iterate 2 ((iterate 5 refine AL.rf ?_); refine AL.r qf ?_; refine AL.rm ?_)); (iterate 5 refine AL.rf ?_); refine AL.r qf ?_; refine AL.ra ?_; refine AL.nil (AW.ret (r1t ?_)); exact nl1
        refine AL.n ?_; (iterate 3 ((iterate 5 refine AL.rf ?_); refine AL.r qf ?_; refine AL.rm ?_)); (iterate 5 refine AL.rf ?_); refine AL.r qf ?_; refine AL.ra ?_; refine AL.nil (AW.ret (r1t ?_)); exact nl1
       refine AL.n ?_; (iterate 4 ((iterate 5 refine AL.rf ?_); refine AL.r qf ?_; refine AL.rm ?_)); (iterate 5 refine AL.rf ?_); refine AL.r qf ?_; refine AL.ra ?_; refine AL.nil (AW.ret (r1t ?_)); exact nl1
      refine AL.n ?_; (iterate 5 ((iterate 5 refine AL.rf ?_); refine AL.r qf ?_; refine AL.rm ?_)); (iterate 5 refine AL.rf ?_); refine AL.r qf ?_; refine AL.ra ?_; refine AL.nil (AW.ret (r1t ?_)); exact nl1
     refine AL.n ?_; (iterate 6 ((iterate 5 refine AL.rf ?_); refine AL.r qf ?_; refine AL.rm ?_)); (iterate 2 refine AL.rf ?_)
     (iterate 3 refine AL.rf ?_); refine AL.r qf ?_; refine AL.ra ?_; refine AL.nil (AW.ret (r1t ?_))
     exact nl1
    refine AL.n ?_; (iterate 6 ((iterate 5 refine AL.rf ?_); refine AL.r qf ?_; refine AL.rm ?_)); (iterate 2 refine AL.rf ?_)
    (iterate 3 refine AL.rf ?_); refine AL.r qf ?_; refine AL.rm ?_; (iterate 5 refine AL.rf ?_); refine AL.r qf ?_; refine AL.ra ?_; refine AL.nil (AW.ret (r1t ?_))
    exact nl1
   refine AL.n ?_; (iterate 6 ((iterate 5 refine AL.rf ?_); refine AL.r qf ?_; refine AL.rm ?_)); (iterate 2 refine AL.rf ?_)
   (iterate 3 refine AL.rf ?_); (iterate 2 (refine AL.r qf ?_; refine AL.rm ?_; (iterate 5 refine AL.rf ?_))); refine AL.r qf ?_; refine AL.ra ?_; refine AL.nil (AW.ret (r1t ?_))
   exact nl1
  refine AL.n ?_; (iterate 6 ((iterate 5 refine AL.rf ?_); refine AL.r qf ?_; refine AL.rm ?_)); (iterate 2 refine AL.rf ?_)
  (iterate 3 refine AL.rf ?_); (iterate 3 (refine AL.r qf ?_; refine AL.rm ?_; (iterate 5 refine AL.rf ?_))); refine AL.r qf ?_; refine AL.ra ?_; refine AL.nil (AW.ret (r1t ?_))
  exact nl1
theorem AW.settle {P : Program} {c : Code} {Q : jDa} {t : List AV} {st : List TK} (d : Nat) {k g : Nat} {tc : TC} {xs : List (List AV)} (hd : t[d]? = some (.ow k g)) (hk : st[k]? = some ⟨g, tc⟩) (hc : cont tc = some xs) (h : AW P c Q (t.set d (.sl xs)) (st.set k ⟨g, .off⟩)) : AW P c Q t st := fun F ρ w0 w a hs hm => by
  obtain ⟨h1, h2, h3⟩ := hs.settle hk hc
  refine h F ρ w0 w a h1 ?_
  have hm' := hm.mv h2
  refine ⟨hm'.defers, by simp [hm'.size], fun i v x hv hx => ?_⟩; rw [List.getElem?_set] at hx
  split at hx
  · rename_i e
    subst e
    split at hx
    · injection hx with hx
      subst hx
      exact h3 v (hm.rep _ v _ hv hd)
    cases hx
  exact hm'.rep i v x hv hx
theorem AW.settlebx {P : Program} {c : Code} {Q : jDa} {t : List AV} {st : List TK} (kb off : Nat) {k g gb : Nat} {tc : TC} {ty : TypeId} {cs : List AV} {xs : List (List AV)} (hb : st[kb]? = some ⟨gb, .box ty cs⟩) (hd : cs[off]? = some (.ow k g)) (hk : st[k]? = some ⟨g, tc⟩) (hc : cont tc = some xs)
    (h : AW P c Q t ((st.set k ⟨g, .off⟩).set kb ⟨gb, .box ty (cs.set off (.sl xs))⟩)) : AW P c Q t st := fun F ρ w0 w a hs hm => by
  have hne : kb ≠ k := fun e => by subst e; rw [hb] at hk; injection hk with hk; injection hk with _ hk; subst hk; simp [cont] at hc
  obtain ⟨h1, h2, h3⟩ := hs.settle hk hc
  have hb1 : (st.set k ⟨g, .off⟩)[kb]? = some ⟨gb, .box ty cs⟩ := by rw [List.getElem?_set_ne (fun e => hne e.symm)]; exact hb
  obtain ⟨vs, b1, b2, b3, b4⟩ := hs.box kb gb ty cs hb
  have key := h1.reboxW (cs' := cs.set off (.sl xs)) hb1 vs b1 (by simpa using b2) b3 (fun i v x hv hx => by
    rw [List.getElem?_set] at hx
    split at hx
    · rename_i e
      subst e
      split at hx
      · injection hx with hx
        subst hx
        exact h3 v (b4 _ v _ hv hd)
      cases hx
    exact (b4 i v x hv hx).mv h2)
  exact h F ρ w0 w a key.1 ((hm.mv h2).mv key.2)
theorem set_self' {α : Type} : ∀ {l : List α} {k : Nat} {x : α}, l[k]? = some x → l.set k x = l
  | [], _, _, h => by simp at h
  | a :: l, 0, x, h => by simp at h; simp [h]
  | a :: l, k + 1, x, h => by simp only [List.set_cons_succ]; rw [set_self' (by simpa using h)]
theorem AL.bxn {P : Program} {ops : Array Oper} {K : List AV → List TK → Prop} {l : List Oper} {t : List AV} {st : List TK} (k : Nat) (cs' : List AV) {g : Nat} {ty : TypeId} {cs : List AV} (hk : st[k]? = some ⟨g, .box ty cs⟩) (he : cs = cs') (h : AL P ops K l t (st.set k ⟨g, .box ty cs'⟩)) : AL P ops K l t st := by
  subst he; rwa [set_self' hk] at h
theorem AL.sln {P : Program} {ops : Array Oper} {K : List AV → List TK → Prop} {l : List Oper} {t : List AV} {st : List TK} (k : Nat) (x' : AV) {x : AV} (hk : t[k]? = some x) (he : x = x') (h : AL P ops K l (t.set k x') st) : AL P ops K l t st := by
  subst he; rwa [set_self' hk] at h
set_option maxRecDepth 100000
section
variable {b : List UInt8} {f : Int} (hf : okF f = true)
include hf
theorem jNe (b : List UInt8) : RdG b f (newR b f) 0 := ⟨rfl, rfl, rfl, by show (!okF f) = false; rw [hf]; rfl⟩
end
theorem ADB.cut {P : Program} {l : List Oper} {K : List AV → List TK → Prop} {fuel fuel2 : Nat} {listed listed2 : Array Bool} {t t2 : List AV} {st st2 : List TK} (h : ADB P l K fuel2 listed2 t2 st2 → ADB P l K fuel listed t st) (key : ADB P l K fuel2 listed2 t2 st2) : ADB P l K fuel listed t st := h key
theorem ADB.use {P : Program} {l : List Oper} {K : List AV → List TK → Prop} {fuel fuel2 : Nat} {listed listed2 : Array Bool} {t t2 : List AV} {st st2 : List TK} (key : ADB P l K fuel2 listed2 t2 st2) (hf : fuel = fuel2 := by rfl) (hl : listed = listed2 := by kernel_rfl) (ht : t = t2 := by rfl) (hs : st = st2 := by rfl) : ADB P l K fuel listed t st := by
  subst hf hl ht hs
  exact key
end Go.Proofs.YtlapcfnmmpbeeaaGreat
