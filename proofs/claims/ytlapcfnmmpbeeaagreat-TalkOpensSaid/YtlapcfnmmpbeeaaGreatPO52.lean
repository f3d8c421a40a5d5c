/- The law punnetlaw30.TalkOpens returns true for every input that can be read, and each argument reads behind the call as before. No conditions. (The frame was written by a program, mklaw.py, after the kit's proof-skeleton.) -/
import Derived.Test.YtlapcfnmmpbeeaaGreatRows
import Derived.Test.YtlapcfnmmpbeeaaGreatPO51
set_option linter.unusedSimpArgs false
set_option linter.unusedVariables false
namespace Go.Proofs.YtlapcfnmmpbeeaaGreat
set_option maxRecDepth 100000
set_option maxRecDepth 100000
open Go.RowKit
def nAw : NoteD := ⟨4, 3, 0, z6, [], [], []⟩
theorem nAw_wf : nAw.Wf := ⟨⟨by decide, by decide⟩, ⟨by decide, by decide⟩, ⟨by decide, by decide⟩, ⟨⟨by decide, by decide⟩, ⟨by decide, by decide⟩, ⟨by decide, by decide⟩, ⟨by decide, by decide⟩, ⟨by decide, by decide⟩, ⟨by decide, by decide⟩⟩, fun t h => by simp [nAw] at h, fun t h => by simp [nAw] at h, fun t h => by simp [nAw] at h⟩
theorem bAw : jHi 2 nAw = [2, 8, 6, 0, 0, 0, 0, 0, 0] := by kernel_rfl
def pAw : List UInt8 := jEB jFw (jHi 2 nAw)
theorem pAw_drop : pAw.drop 8 = [2, 8, 6, 0, 0, 0, 0, 0, 0] := by
  unfold pAw jEB
  rw [← List.append_assoc, List.drop_append_of_le_length (by simp [jBc]), List.drop_of_length_le (by simp [jBc]), bAw]; rfl
theorem pAw_len : pAw.length = 17 := by
  unfold pAw jEB
  rw [bAw]
  simp [jBc]
theorem pack_aw : AC Tryz.prog 13 [.sc (tabV jFw), .sc (.int .i64 2), nAw.av] (fun r => r = .ot 5 1 (byA pAw) [AI 0]) := pack_4 jFw (fun _ h => byteN_lt h) 2 ⟨by decide, by decide⟩ rfl 3 0 z6 [] [] [] nAw_wf (by kernel_rfl)
theorem jLZ : AC Tryz.prog 6 [] (fun r => r = .s (AB true)) := by
  have hl := pAw_len
  refine AC.of' 22 0 Tryz.func6 rfl ?_; change AW _ _ _ _ []; refine AW.g (AL.ra ?_); refine AL.nil (AW.g (AL.cl (made_c) ?_)); refine AL.n ?_; refine AL.r (qB jCh jA2) ?_; refine AL.cl (pack_aw) ?_; refine AL.n ?_; refine AL.rm ?_; refine AL.r qe ?_; refine AL.r qe ?_; (iterate 2 refine AL.ra ?_); refine AL.nil (AW.g (AL.rm ?_)); refine AL.r qb ?_; refine AL.rm ?_; refine AL.fk (d := 11) rfl (fun h11 => ?_) (fun h11 => ?_)
  ·refine AL.n ?_; refine AL.ro (jAa rfl rfl) ?_; refine AL.ro (lN jAC) ?_; refine AL.ro qb ?_; refine AL.r qt ?_; refine AL.rm ?_; refine AL.fk (d := 16) rfl (fun h16 => ?_) (fun h16 => ?_)
   ·refine AL.n ?_; refine AL.ro (jAa rfl rfl) ?_; refine AL.ro (jBl rfl jAC rfl rfl (m := 8) rfl (by omega)) ?_; refine AL.ro (jI9 rfl (by kernel_rfl) (jBQ rfl)) ?_; refine AL.ro (jBi rfl rfl rfl) ?_; refine AL.r qt ?_; refine AL.ra ?_; refine AL.nil (AW.ret (r1t ?_))
    (refine sb ?_; rw [pAw_drop]; decide)
   (exfalso; omega)
  exact (h11 trivial).elim
set_option maxRecDepth 100000
section
variable (t : Nat → Nat) (l : List UInt8)
theorem to_big (h : 4000 < l.length) : AC Tryz.prog 5 [.sc (tabV t), .sl (byA l)] (fun r => r = .s (AB true)) := by
  refine AC.of' 41 3 Tryz.func5 rfl ?_; change AW _ _ _ _ [TK.mk 0 .off, TK.mk 0 .off, TK.mk 0 .off]; refine AW.g (AL.oq (AOpB.op (jA7 0 rfl rfl rfl ?_))); refine AL.n ?_; refine AL.ra ?_; refine AL.nil (AW.seq (AW.g (AL.cl (jLZ) ?_))); refine AL.n ?_; refine AL.r qu ?_; refine AL.nil (AW.cond_f rfl (AW.skip (AW.seq (AW.g (AL.rm ?_))))); refine AL.r (lN jAC) ?_; refine AL.r qb ?_; refine AL.nil (AW.cd rfl (fun h15 => ?_) (fun h15 => ?_))
  ·refine AW.g (AL.ra ?_); refine AL.nil (AW.ret (r1t ?_)); rfl
  (exfalso; (try simp only [jAd] at h15); omega)
theorem rsame_eq {n : NoteD} (h : ∀ e ∈ n.edges, e.lens.Small) : AC Tryz.prog 11 [n.av, n.av] (fun r => r = .s (AB true)) := (rnsame_c n n h).mono fun r hr => by rw [hr, decide_eq_true rfl]
set_option maxHeartbeats 4000000 in
theorem to_ok (h : l.length ≤ 4000) (p : NoteD × Int × Int) (hs : ∀ e ∈ p.1.edges, e.lens.Small) (c1 : AC Tryz.prog 15 [.sc (tabV t), .sl (byA l)] (fun r => r = .s (.tu [.ag [AI (p.1).kind, AI (p.1).from_, AI (p.1).fmt, AI (p.1).have_.a, AI (p.1).have_.b, AI (p.1).have_.c, AI (p.1).have_.d, AI (p.1).have_.e, AI (p.1).have_.f, .sl ((p.1).tags.map TagD.cs), .sl ((p.1).edges.map EdgeD.cs), .sl ((p.1).ops.map OpD.cs)], AI p.2.1, AI p.2.2]))) (c2 : AC Tryz.prog 16 [.sc (tabV t), .sl (byA l)] (fun r => r = .s (.tu [.ag [AI (p.1).kind, AI (p.1).from_, AI (p.1).fmt, AI (p.1).have_.a, AI (p.1).have_.b, AI (p.1).have_.c, AI (p.1).have_.d, AI (p.1).have_.e, AI (p.1).have_.f, .sl ((p.1).tags.map TagD.cs), .sl ((p.1).edges.map EdgeD.cs), .sl ((p.1).ops.map OpD.cs)], AI p.2.1, AI p.2.2]))) : AC Tryz.prog 5 [.sc (tabV t), .sl (byA l)] (fun r => r = .s (AB true)) := by
  refine AC.of' 41 3 Tryz.func5 rfl ?_; change AW _ _ _ _ [TK.mk 0 .off, TK.mk 0 .off, TK.mk 0 .off]; refine AW.g (AL.oq (AOpB.op (jA7 0 rfl rfl rfl ?_))); refine AL.n ?_; refine AL.ra ?_; refine AL.nil (AW.seq (AW.g (AL.cl (jLZ) ?_))); refine AL.n ?_; refine AL.r qu ?_; refine AL.nil (AW.cond_f rfl (AW.skip (AW.seq (AW.g (AL.rm ?_))))); refine AL.r (lN jAC) ?_; refine AL.r qb ?_; refine AL.nil (AW.cd rfl (fun h15 => ?_) (fun h15 => ?_))
  ·(exfalso; (try simp only [jAd] at h15); omega)
  refine AW.skip (AW.g (AL.r (jBq rfl jCU rfl rfl) ?_)); refine AL.rm ?_; refine AL.cl (c1) ?_; refine AL.n ?_; refine AL.rm ?_; refine AL.r qe ?_; refine AL.r qe ?_; refine AL.r qe ?_; refine AL.oq (AOpB.op (oA 1 jA2 ?_)); refine AL.n ?_; refine AL.oq (oS jAR ?_); refine AL.b ?_; (iterate 2 refine AL.ra ?_); refine AL.nil (AW.g (AL.r (jBq rfl jCU rfl rfl) ?_)); refine AL.rm ?_; refine AL.cl (c2) ?_; refine AL.n ?_; refine AL.rm ?_; refine AL.r qe ?_; refine AL.r qe ?_; refine AL.r qe ?_; refine AL.oq (AOpB.op (oA 2 jA2 ?_)); refine AL.n ?_; refine AL.oq (oS jAR ?_); refine AL.b ?_; (iterate 2 refine AL.ra ?_); refine AL.nil (AW.g ?_); (iterate 2 refine AL.rm ?_); refine AL.r qb ?_; refine AL.rm ?_; refine AL.fk (d := 33) rfl (fun h33 => ?_) (fun h33 => ?_)
  ·refine AL.n ?_; refine AL.ro (jAa rfl rfl) ?_; refine AL.ro (jAa rfl rfl) ?_; refine AL.ro qb ?_; refine AL.r qt ?_; refine AL.rm ?_; refine AL.fk (d := 38) rfl (fun h38 => ?_) (fun h38 => ?_)
   ·refine AL.n ?_; refine AL.ro (qN jAB) ?_; refine AL.ro (qN jAB) ?_; refine AL.on rfl rfl rfl (AOpB.op (jAb (rsame_eq hs) rfl (by kernel_rfl) rfl (none) ?_)); rintro r rfl; refine AL.n ?_; refine AL.r qt ?_; refine AL.ra ?_; refine AL.nil (AW.ret (r1t ?_)); rfl
   (exfalso; first | exact h38 rfl | (simp at h38))
  (exfalso; first | exact h33 rfl | (simp at h33))
end
theorem jJB (t : Nat → Nat) (ht : ∀ i, i < 256 → t i < 4294967296) (l : List UInt8) : AC Tryz.prog 5 [.sc (tabV t), .sl (byA l)] (fun r => r = .s (AB true)) := by
  by_cases h : 4000 < l.length
  · exact to_big t l h
  exact to_ok t l (by omega) (jED t l) (jJZ t l (by omega)) (opens_c t ht l (by omega)) (ropens_c t ht l (by omega))
theorem jG8 (w : World) (t0 : Nat → Nat) (ht0 : ∀ i, i < 256 → t0 i < 4294967296) (v1 : Value) (b1 : List UInt8) (hb1 : b1.length ≤ maxLen) (rp1 : RepS AnyB w v1 (.sl (byA b1))) :
    Calls Tryz.prog 5 #[tabV t0, v1] w fun e w' => e = .returned (.bool true) ∧ Below w.heap.size w w' :=
  (jJB t0 ht0 b1).law (vs := [tabV t0, v1]) rfl (jKw (.sc _) (jKw rp1 rep_nil))
set_option maxRecDepth 100000
open Go.RowKit Go.ChangeShapes Go.WideShapes Go.ChangeAt Go.Deep
section
variable {H : Type} {enc : TypeId × Value → H} {W : World} {base b0 : Nat} {sp : Nat → Bool} {held : Bool} {r : Reach}
theorem op_u8 : OpT enc Tryz.prog W base sp held 5 (fun _ : UInt8 => True) (fun b => [.sc (bv b)]) := fun fuel cs x h => by
  obtain ⟨n, hn, hr⟩ := op_int (enc := enc) Tryz.underlying5 fuel cs x h
  obtain ⟨b, rfl⟩ := jLC hn
  exact ⟨b, trivial, hr⟩
theorem op_bytes : OpT enc Tryz.prog W base sp held 52 (fun l : List UInt8 => l.length ≤ maxLen ∧ ∀ c ∈ l, True) (fun l => [.sl (byA l)]) := op_slice (sz := 1) Tryz.underlying52 (by kernel_rfl) (by decide) (fun _ => rfl) op_u8
theorem open_byt {v : Value} {d : DataW H} {p : List MemPlace} (hv : Value.okWide Tryz.prog W r b0 52 v) (h : DataW.Trod enc Tryz.prog W base sp held 52 v d p) : ∃ l : List UInt8, l.length ≤ maxLen ∧ RepS AnyB W v (.sl (byA l)) := by
  obtain ⟨A, n, c, rfl⟩ := okWide_slice Tryz.underlying52 hv
  obtain ⟨l, h1, h2⟩ := op_bytes.cell (f := fun l : List UInt8 => AV.sl (byA l)) rfl h
  exact ⟨l, h1.1, h2⟩
end
end Go.Proofs.YtlapcfnmmpbeeaaGreat
namespace Go.Proofs.YtlapcfnmmpbeeaaGreat.talkOpens
open Go.ChangeShapes Go.WideShapes Go.ChangeAt Go.RowKit
open Go.ChangeMaps (open_string shut_string)
theorem own : ownKnob Tryz.prog.godebug = none := by kernel_rfl
theorem jMm : laidOutB Tryz.prog = true := by kernel_rfl
set_option maxRecDepth 100000 in
theorem lifted (os : Os) (started : os.Started) (H : Type) (enc : TypeId × Value → H) :
    ReturnsInHanded {} Tryz.checked os 5 .any (Rows.talkOpensSpec.pre6 enc Tryz.prog Tryz.f5 Rows.talkOpensRow.domain false) (Rows.talkOpensSpec.post enc Tryz.prog Tryz.f5 false true false false) := by
  refine returnsInHanded_of_change (C := Tryz.checked) own started (by kernel_rfl) Tryz.func5
    (ChangeSpec.witness6 (enc := enc) (C := Tryz.checked) false ⟨#[], #[tabV (fun _ => 0), .slice none 0 0], []⟩ 8 (by kernel_rfl) (by kernel_rfl) (by kernel_rfl) (by kernel_rfl)) ?_
  intro W base args ds gs before hval0 hW hcnd _
  have hval : ∀ (j : Nat) t v, Tryz.f5.params[j]? = some t → args[j]? = some v → Value.okWide Tryz.prog W .any base t v := hval0
  have hW' := hW
  obtain ⟨p, q, hA0, hV, rfl, hfz, hnd⟩ := hW
  have hA : DataW.TrodAll enc Tryz.prog W 0 (fun _ => true) true Tryz.f5.params.toList args.toList ds p := hA0
  rw [Tryz.params5] at hA hval
  obtain ⟨v0, vs0, d0, ds0, p0, q0, hargs, rfl, rfl, h0, r0⟩ := trodAll_cons hA
  obtain ⟨v1, vs1, d1, ds1, p1, q1, rfl, rfl, rfl, h1, r1⟩ := trodAll_cons r0
  obtain ⟨rfl, rfl, rfl⟩ := trodAll_nil r1
  obtain rfl : args = #[v0, v1] := by cases args; simp_all
  obtain ⟨rfl, rfl⟩ := trodVars_none hV
  have k0 := h0
  have lt0 : ∀ x ∈ p0, x.block < W.heap.size := by obtain ⟨m, hm⟩ := k0; exact DataW.trod_lt m _ _ _ hm
  obtain ⟨t0, ht0, rfl⟩ := jLr Tryz.underlying51 Tryz.underlying49 (by kernel_rfl) (by kernel_rfl) (hval 0 51 v0 rfl rfl) h0
  have k1 := h1
  have lt1 : ∀ x ∈ p1, x.block < W.heap.size := by obtain ⟨m, hm⟩ := k1; exact DataW.trod_lt m _ _ _ hm
  obtain ⟨b1, hb1, rp1⟩ := open_byt (hval 1 52 v1 rfl rfl) h1
  clear hA0 hval0
  refine (jG8 W t0 ht0 v1 b1 hb1 rp1).mono fun e W' ⟨he, bel⟩ => ?_; subst he; exact ⟨_, rfl, _, _, _, [], _, [], hW', trodAll_mk1 (shut_bool Tryz.underlying4 _), (trodAll_cons_mk (Below.trod jMm (by kernel_rfl) (of_decide_eq_true (by kernel_rfl)) k0 bel lt0) (trodAll_cons_mk (Below.trod jMm (by kernel_rfl) (of_decide_eq_true (by kernel_rfl)) k1 bel lt1) trodAll_mk0)), rfl, bel.frame _, fun h => by cases h⟩
theorem over : Rows.talkOpensRow.holds Tryz.pinned (OpenSpec.ofChange Rows.talkOpensSpec) :=
  OpenClaim.holds_of_wide 5 Tryz.f5 rfl rfl rfl rfl rfl rfl rfl ⟨rfl, rfl, rfl, rfl, rfl⟩ rfl rfl rfl rfl rfl (by kernel_rfl) Tryz.func5 (by kernel_rfl)
    (of_decide_eq_true (by kernel_rfl)) (by unfold Func.isWrapper; first | (rw [if_pos (by decide +kernel)]; kernel_rfl) | (rw [if_neg (by decide +kernel)]; exact ⟨rfl, rfl⟩))
    (fun os started H enc _ => lifted os started H enc)
end Go.Proofs.YtlapcfnmmpbeeaaGreat.talkOpens
namespace Go.Proofs.YtlapcfnmmpbeeaaGreat
theorem talkOpens_holds : Rows.TalkOpensSaid := talkOpens.over
end Go.Proofs.YtlapcfnmmpbeeaaGreat
#print axioms Go.Proofs.YtlapcfnmmpbeeaaGreat.talkOpens_holds
