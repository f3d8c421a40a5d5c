import Derived.Test.YtlapcfnmmpbeeaaGreatRows
import Derived.Test.YtlapcfnmmpbeeaaGreatPP49
import Derived.Test.YtlapcfnmmpbeeaaGreatPP50
import Derived.Test.YtlapcfnmmpbeeaaGreatPP51
set_option linter.unusedSimpArgs false
set_option linter.unusedVariables false
namespace Go.Proofs.YtlapcfnmmpbeeaaGreat
set_option maxRecDepth 100000
set_option maxRecDepth 100000
open Go.RowKit
theorem fb_nat {f : Int} (h : okF f = true) : (((fb f).toNat : Nat) : Int) = f := by
  rcases okF_iff.1 h with rfl | rfl <;> rfl
section
variable (t : Nat → Nat) (ht : ∀ i, i < 256 → t i < 4294967296)
include ht
theorem fget_fr {b : List UInt8} (hb : b.length ≤ 60000) : AC Tryz.prog 55 [.sl (byA (frameN t b)), .sc (.int .i64 0), .sc (tabV t)] (fun r => r = .s (.tu [.sl (byA b), .sc (.int .i64 ((frameN t b).length : Int)), .sc (.int .i64 0)])) := by
  have hl : (frameN t b).length = 8 + b.length := by simp [frameN, leB_len]; omega
  have hg : fget t (frameN t b) = some b := by
    have := fget_frame t b [] hb
    rwa [List.append_nil] at this
  exact (fgetc t ht (frameN t b) 0 (Nat.zero_le _) (by omega)).mono fun r hr => by
    rw [hr]
    unfold gB gE gC
    rw [List.drop_zero, hg, hl, Nat.zero_add]; rfl
theorem open_pk (f : Int) (hok : okF f = true) (n : NoteD) (hw : n.Wf) (hn : noteB n = true) : AC Tryz.prog 15 [.sc (tabV t), .sl (byA (frameN t (bytesN f n)))] (fun r => r = .s (.tu [.ag [AI n.kind, AI n.from_, AI n.fmt, AI n.have_.a, AI n.have_.b, AI n.have_.c, AI n.have_.d, AI n.have_.e, AI n.have_.f, .sl (n.tags.map TagD.cs), .sl (n.edges.map EdgeD.cs), .sl (n.ops.map OpD.cs)], AI f, AI 0])) := by
  have hln := bytesN_len (f := f) hn
  obtain ⟨h1, h2, h3⟩ := note_at hok hw hn
  have e : bytesN f n = fb f :: (bytesN f n).drop 1 := by
    cases hb : bytesN f n with
    | nil => rw [hb] at h3; cases h3
    | cons c r => rw [hb] at h3; injection h3 with h3; rw [h3]; rfl
  have hg := fget_fr t ht (b := bytesN f n) (by omega)
  have hr : ((bytesN f n).drop 1).length ≤ 60000 := by rw [List.length_drop]; omega
  generalize (bytesN f n).drop 1 = rest at *
  rw [show byA (bytesN f n) = byA (fb f :: rest) by rw [e]] at hg
  have := open_ok t (frameN t (bytesN f n)) (fb f) rest hr (by rw [fb_nat hok]; exact hok) hg
  rw [nR, fb_nat hok, openK_t h2 h1] at this
  exact this
end
theorem pack_argb (t : Nat → Nat) (f : Int) (hok : okF f = false) (n : NoteD) : AC Tryz.prog 13 [.sc (tabV t), .sc (.int .i64 f), n.av] (fun r => r = .s (.tu [.sl (byA []), AI 2])) := pack_arg t f hok n
theorem pack_formb (t : Nat → Nat) (f : Int) (hok : okF f = true) (n : NoteD) (hn : noteB n = false) : AC Tryz.prog 13 [.sc (tabV t), .sc (.int .i64 f), n.av] (fun r => r = .s (.tu [.sl (byA []), AI 5])) := pack_form t f hok n hn
theorem rpack_argb (t : Nat → Nat) (f : Int) (hok : okF f = false) (n : NoteD) : AC Tryz.prog 14 [.sc (tabV t), .sc (.int .i64 f), n.av] (fun r => r = .s (.tu [.sl (byA []), AI 2])) := rpack_arg t f hok n
theorem rpack_formb (t : Nat → Nat) (f : Int) (hok : okF f = true) (n : NoteD) (hh : heavyN n = false) (hn : noteB n = false) : AC Tryz.prog 14 [.sc (tabV t), .sc (.int .i64 f), n.av] (fun r => r = .s (.tu [.sl (byA []), AI 5])) := rpack_form t f hok n hh hn
section
variable (t : Nat → Nat) (ht : ∀ i, i < 256 → t i < 4294967296) (f : Int) (n : NoteD)
theorem tp_heavy (h : heavyN n = true) : AC Tryz.prog 4 [.sc (tabV t), .sc (.int .i64 f), n.av] (fun r => r = .s (AB true)) := by
  change AC _ _ [.sc (tabV t), .sc (.int .i64 f), .ag [AI n.kind, AI n.from_, AI n.fmt, AI n.have_.a, AI n.have_.b, AI n.have_.c, AI n.have_.d, AI n.have_.e, AI n.have_.f, .sl (n.tags.map TagD.cs), .sl (n.edges.map EdgeD.cs), .sl (n.ops.map OpD.cs)]] _; refine AC.of' 60 3 Tryz.func4 rfl ?_; change AW _ _ _ _ [TK.mk 0 .off, TK.mk 0 .off, TK.mk 0 .off]; refine AW.seq (AW.region (AL.op rfl (AOpB.op (op_tabbox 0 rfl rfl rfl ?_)))); refine AL.n ?_; refine AL.op rfl (AOpB.op (op_box 1 rfl rfl rfl rfl rfl ?_)); refine AL.n ?_; refine AL.ra ?_; refine AL.nil (AW.seq (AW.seq (AW.region (AL.op rfl (AOpB.op (op_call (awake30) rfl (by kernel_rfl) rfl (none) ?_)))))); rintro r rfl; refine AL.n ?_; refine AL.r (rd_un rfl rfl (fun _ => rfl)) ?_; refine AL.nil (AW.cond_f rfl (AW.skip ?_))
  refine AW.seq (AW.seq (AW.region (AL.r (qN ag_28) ?_))); refine AL.op rfl (AOpB.op (op_call (rheavy_t n h) rfl (by kernel_rfl) rfl (none) ?_)); rintro r rfl; refine AL.n ?_; refine AL.nil (AW.cond_t rfl (AW.seq (AW.region (AL.ra ?_)))); refine AL.nil (AW.ret (r1t ?_)); rfl
theorem tp_arg (h : heavyN n = false) (hok : okF f = false) : AC Tryz.prog 4 [.sc (tabV t), .sc (.int .i64 f), n.av] (fun r => r = .s (AB true)) := by
  change AC _ _ [.sc (tabV t), .sc (.int .i64 f), .ag [AI n.kind, AI n.from_, AI n.fmt, AI n.have_.a, AI n.have_.b, AI n.have_.c, AI n.have_.d, AI n.have_.e, AI n.have_.f, .sl (n.tags.map TagD.cs), .sl (n.edges.map EdgeD.cs), .sl (n.ops.map OpD.cs)]] _; refine AC.of' 60 3 Tryz.func4 rfl ?_; change AW _ _ _ _ [TK.mk 0 .off, TK.mk 0 .off, TK.mk 0 .off]; refine AW.seq (AW.region (AL.op rfl (AOpB.op (op_tabbox 0 rfl rfl rfl ?_)))); refine AL.n ?_; refine AL.op rfl (AOpB.op (op_box 1 rfl rfl rfl rfl rfl ?_)); refine AL.n ?_; refine AL.ra ?_; refine AL.nil (AW.seq (AW.seq (AW.region (AL.op rfl (AOpB.op (op_call (awake30) rfl (by kernel_rfl) rfl (none) ?_)))))); rintro r rfl; refine AL.n ?_; refine AL.r (rd_un rfl rfl (fun _ => rfl)) ?_; refine AL.nil (AW.cond_f rfl (AW.skip ?_))
  refine AW.seq (AW.seq (AW.region (AL.r (qN ag_28) ?_))); refine AL.op rfl (AOpB.op (op_call (rheavy_f n h) rfl (by kernel_rfl) rfl (none) ?_)); rintro r rfl; refine AL.n ?_; refine AL.nil (AW.cond_f rfl (AW.skip (AW.seq (AW.region (AL.r (rd_tab0 rfl ag_51 rfl rfl) ?_))))); refine AL.rm ?_; refine AL.r (qN ag_28) ?_; refine AL.op rfl (AOpB.op (op_call (pack_argb t f hok n) rfl (by kernel_rfl) rfl (none) ?_)); rintro r rfl; refine AL.n ?_; refine AL.rm ?_; refine AL.r (rd_extract rfl rfl rfl) ?_; refine AL.r (rd_extract rfl rfl rfl) ?_; (iterate 2 refine AL.ra ?_); refine AL.nil (AW.seq (AW.region (AL.r (rd_tab0 rfl ag_51 rfl rfl) ?_)))
  refine AL.rm ?_; refine AL.r (qN ag_28) ?_; refine AL.op rfl (AOpB.op (op_call (rpack_argb t f hok n) rfl (by kernel_rfl) rfl (none) ?_)); rintro r rfl; refine AL.n ?_; refine AL.rm ?_; refine AL.r (rd_extract rfl rfl rfl) ?_; refine AL.r (rd_extract rfl rfl rfl) ?_; (iterate 2 refine AL.ra ?_); refine AL.nil (AW.seq (AW.seq (AW.region ?_))); (iterate 2 refine AL.rm ?_); refine AL.r qb ?_; refine AL.rm ?_; refine AL.fk (d := 35) rfl (fun h35 => ?_) (fun h35 => ?_)
  ·(exfalso; first | exact h35 rfl | (simp at h35))
  ·refine AL.n ?_; refine AL.ro (rd_move rfl rfl) ?_; refine AL.ro (rd_b2s rfl (by kernel_rfl) (src_s rfl)) ?_; refine AL.ro (rd_move rfl rfl) ?_; refine AL.ro (rd_b2s rfl (by kernel_rfl) (src_s rfl)) ?_; refine AL.ro (rd_sne rfl rfl rfl) ?_; refine AL.r qf ?_; refine AL.nil (AW.cd rfl (fun h41 => ?_) (fun h41 => ?_))
   ·(exfalso; first | exact h41 rfl | (simp at h41))
   ·refine AW.skip (AW.seq (AW.seq (AW.region (AL.rm ?_)))); refine AL.r qb ?_; refine AL.nil (AW.cd rfl (fun h43 => ?_) (fun h43 => ?_))
    ·refine AW.seq (AW.region (AL.ra ?_)); refine AL.nil (AW.ret (r1t ?_)); rfl
    ·(exfalso; first | exact absurd h43 (by decide) | (simp at h43))
theorem tp_form (h : heavyN n = false) (hok : okF f = true) (hn : noteB n = false) : AC Tryz.prog 4 [.sc (tabV t), .sc (.int .i64 f), n.av] (fun r => r = .s (AB true)) := by
  change AC _ _ [.sc (tabV t), .sc (.int .i64 f), .ag [AI n.kind, AI n.from_, AI n.fmt, AI n.have_.a, AI n.have_.b, AI n.have_.c, AI n.have_.d, AI n.have_.e, AI n.have_.f, .sl (n.tags.map TagD.cs), .sl (n.edges.map EdgeD.cs), .sl (n.ops.map OpD.cs)]] _; refine AC.of' 60 3 Tryz.func4 rfl ?_; change AW _ _ _ _ [TK.mk 0 .off, TK.mk 0 .off, TK.mk 0 .off]; refine AW.seq (AW.region (AL.op rfl (AOpB.op (op_tabbox 0 rfl rfl rfl ?_)))); refine AL.n ?_; refine AL.op rfl (AOpB.op (op_box 1 rfl rfl rfl rfl rfl ?_)); refine AL.n ?_; refine AL.ra ?_; refine AL.nil (AW.seq (AW.seq (AW.region (AL.op rfl (AOpB.op (op_call (awake30) rfl (by kernel_rfl) rfl (none) ?_)))))); rintro r rfl; refine AL.n ?_; refine AL.r (rd_un rfl rfl (fun _ => rfl)) ?_; refine AL.nil (AW.cond_f rfl (AW.skip ?_))
  refine AW.seq (AW.seq (AW.region (AL.r (qN ag_28) ?_))); refine AL.op rfl (AOpB.op (op_call (rheavy_f n h) rfl (by kernel_rfl) rfl (none) ?_)); rintro r rfl; refine AL.n ?_; refine AL.nil (AW.cond_f rfl (AW.skip (AW.seq (AW.region (AL.r (rd_tab0 rfl ag_51 rfl rfl) ?_))))); refine AL.rm ?_; refine AL.r (qN ag_28) ?_; refine AL.op rfl (AOpB.op (op_call (pack_formb t f hok n hn) rfl (by kernel_rfl) rfl (none) ?_)); rintro r rfl; refine AL.n ?_; refine AL.rm ?_; refine AL.r (rd_extract rfl rfl rfl) ?_; refine AL.r (rd_extract rfl rfl rfl) ?_; (iterate 2 refine AL.ra ?_); refine AL.nil (AW.seq (AW.region (AL.r (rd_tab0 rfl ag_51 rfl rfl) ?_)))
  refine AL.rm ?_; refine AL.r (qN ag_28) ?_; refine AL.op rfl (AOpB.op (op_call (rpack_formb t f hok n h hn) rfl (by kernel_rfl) rfl (none) ?_)); rintro r rfl; refine AL.n ?_; refine AL.rm ?_; refine AL.r (rd_extract rfl rfl rfl) ?_; refine AL.r (rd_extract rfl rfl rfl) ?_; (iterate 2 refine AL.ra ?_); refine AL.nil (AW.seq (AW.seq (AW.region ?_))); (iterate 2 refine AL.rm ?_); refine AL.r qb ?_; refine AL.rm ?_; refine AL.fk (d := 35) rfl (fun h35 => ?_) (fun h35 => ?_)
  ·(exfalso; first | exact h35 rfl | (simp at h35))
  ·refine AL.n ?_; refine AL.ro (rd_move rfl rfl) ?_; refine AL.ro (rd_b2s rfl (by kernel_rfl) (src_s rfl)) ?_; refine AL.ro (rd_move rfl rfl) ?_; refine AL.ro (rd_b2s rfl (by kernel_rfl) (src_s rfl)) ?_; refine AL.ro (rd_sne rfl rfl rfl) ?_; refine AL.r qf ?_; refine AL.nil (AW.cd rfl (fun h41 => ?_) (fun h41 => ?_))
   ·(exfalso; first | exact h41 rfl | (simp at h41))
   ·refine AW.skip (AW.seq (AW.seq (AW.region (AL.rm ?_)))); refine AL.r qb ?_; refine AL.nil (AW.cd rfl (fun h43 => ?_) (fun h43 => ?_))
    ·refine AW.seq (AW.region (AL.ra ?_)); refine AL.nil (AW.ret (r1t ?_)); rfl
    ·(exfalso; first | exact absurd h43 (by decide) | (simp at h43))
include ht
set_option maxHeartbeats 4000000 in
theorem tp_ok (hw : n.Wf) (hf : i64R f) (h : heavyN n = false) (hok : okF f = true) (hn : noteB n = true) : AC Tryz.prog 4 [.sc (tabV t), .sc (.int .i64 f), n.av] (fun r => r = .s (AB true)) := by
  obtain ⟨l1, l2, l3, l4, l5⟩ := heavyN_read h
  have hs : ∀ e ∈ n.edges, e.lens.Small := fun e he => Light.small (l4 e he)
  change AC _ _ [.sc (tabV t), .sc (.int .i64 f), .ag [AI n.kind, AI n.from_, AI n.fmt, AI n.have_.a, AI n.have_.b, AI n.have_.c, AI n.have_.d, AI n.have_.e, AI n.have_.f, .sl (n.tags.map TagD.cs), .sl (n.edges.map EdgeD.cs), .sl (n.ops.map OpD.cs)]] _; refine AC.of' 60 3 Tryz.func4 rfl ?_; change AW _ _ _ _ [TK.mk 0 .off, TK.mk 0 .off, TK.mk 0 .off]; refine AW.seq (AW.region (AL.op rfl (AOpB.op (op_tabbox 0 rfl rfl rfl ?_)))); refine AL.n ?_; refine AL.op rfl (AOpB.op (op_box 1 rfl rfl rfl rfl rfl ?_)); refine AL.n ?_; refine AL.ra ?_; refine AL.nil (AW.seq (AW.seq (AW.region (AL.op rfl (AOpB.op (op_call (awake30) rfl (by kernel_rfl) rfl (none) ?_)))))); rintro r rfl; refine AL.n ?_; refine AL.r (rd_un rfl rfl (fun _ => rfl)) ?_; refine AL.nil (AW.cond_f rfl (AW.skip ?_))
  refine AW.seq (AW.seq (AW.region (AL.r (qN ag_28) ?_))); refine AL.op rfl (AOpB.op (op_call (rheavy_f n h) rfl (by kernel_rfl) rfl (none) ?_)); rintro r rfl; refine AL.n ?_; refine AL.nil (AW.cond_f rfl (AW.skip (AW.seq (AW.region (AL.r (rd_tab0 rfl ag_51 rfl rfl) ?_))))); refine AL.rm ?_; refine AL.r (qN ag_28) ?_; refine AL.op rfl (AOpB.op (op_call (pack_ok t ht f hf hok n hw hn) rfl (by kernel_rfl) rfl (none) ?_)); rintro r rfl; refine AL.n ?_; refine AL.rm ?_; refine AL.r (rd_extract rfl rfl rfl) ?_; refine AL.r (rd_extract rfl rfl rfl) ?_; (iterate 2 refine AL.ra ?_); refine AL.nil (AW.seq (AW.region (AL.r (rd_tab0 rfl ag_51 rfl rfl) ?_)))
  refine AL.rm ?_; refine AL.r (qN ag_28) ?_; refine AL.op rfl (AOpB.op (op_call (rpack_ok t ht f hf hok n hw h hn) rfl (by kernel_rfl) rfl (none) ?_)); rintro r rfl; refine AL.n ?_; refine AL.rm ?_; refine AL.r (rd_extract rfl rfl rfl) ?_; refine AL.r (rd_extract rfl rfl rfl) ?_; (iterate 2 refine AL.ra ?_); refine AL.nil (AW.seq (AW.seq (AW.region ?_))); (iterate 2 refine AL.rm ?_); refine AL.r qb ?_; refine AL.rm ?_; refine AL.fk (d := 35) rfl (fun h35 => ?_) (fun h35 => ?_)
  ·(exfalso; first | exact h35 rfl | (simp at h35))
  ·refine AL.n ?_; refine AL.ro (rd_move rfl rfl) ?_; refine AL.ro (rd_b2s rfl (by kernel_rfl) (src_s rfl)) ?_; refine AL.ro (rd_move rfl rfl) ?_; refine AL.ro (rd_b2s rfl (by kernel_rfl) (src_s rfl)) ?_; refine AL.ro (rd_sne rfl rfl rfl) ?_; refine AL.r qf ?_; refine AL.nil (AW.cd rfl (fun h41 => ?_) (fun h41 => ?_))
   ·(exfalso; first | exact h41 rfl | (simp at h41))
   ·refine AW.skip (AW.seq (AW.seq (AW.region (AL.rm ?_)))); refine AL.r qb ?_; refine AL.nil (AW.cd rfl (fun h43 => ?_) (fun h43 => ?_))
    ·(exfalso; first | exact absurd h43 (by decide) | exact h43 rfl | (simp at h43))
    ·refine AW.skip (AW.seq (AW.region (AL.r (rd_tab0 rfl ag_51 rfl rfl) ?_))); refine AL.rm ?_; refine AL.op rfl (AOpB.op (op_call (open_pk t ht f hok n hw hn) rfl (by kernel_rfl) rfl (none) ?_)); rintro r rfl; refine AL.n ?_; refine AL.rm ?_; refine AL.r (rd_extract rfl rfl rfl) ?_; refine AL.r (rd_extract rfl rfl rfl) ?_; refine AL.r (rd_extract rfl rfl rfl) ?_; refine AL.op rfl (AOpB.op (op_alloc 2 rfl ze_28 rfl ?_)); refine AL.n ?_; refine AL.op rfl (op_store_ rfl rfl rfl rfl rfl sz_28 ?_); refine AL.b ?_; (iterate 2 refine AL.ra ?_); refine AL.nil (AW.seq (AW.region (AL.rm ?_))); refine AL.r qb ?_; refine AL.rm ?_; refine AL.fk (d := 53) rfl (fun h53 => ?_) (fun h53 => ?_)
     ·refine AL.n ?_; refine AL.ro (rd_move rfl rfl) ?_; refine AL.ro (rd_move rfl rfl) ?_; refine AL.ro qb ?_; refine AL.r qt ?_; refine AL.rm ?_; refine AL.fk (d := 58) rfl (fun h58 => ?_) (fun h58 => ?_)
      ·refine AL.n ?_; refine AL.ro (qN ag_28) ?_; refine AL.ro (qN ag_28) ?_; refine AL.on rfl rfl rfl (AOpB.op (op_call (rnsame_t n hs) rfl (by kernel_rfl) rfl (none) ?_)); rintro r rfl; refine AL.n ?_; refine AL.r qt ?_; refine AL.ra ?_; refine AL.nil (AW.ret (r1t ?_)); rfl
      ·(exfalso; first | exact h58 rfl | exact h58 trivial | (simp at h58))
     ·(exfalso; first | exact h53 rfl | exact h53 trivial | (simp at h53))
end
theorem talkpacks_c (t : Nat → Nat) (ht : ∀ i, i < 256 → t i < 4294967296) (f : Int) (n : NoteD) (hw : n.Wf) (hf : i64R f) : AC Tryz.prog 4 [.sc (tabV t), .sc (.int .i64 f), n.av] (fun r => r = .s (AB true)) := by
  cases h : heavyN n with
  | true => exact tp_heavy t f n h
  | false =>
    cases hok : okF f with
    | false => exact tp_arg t f n h hok
    | true =>
      cases hn : noteB n with
      | false => exact tp_form t f n h hok hn
      | true => exact tp_ok t ht f n hw hf h hok hn
theorem walk_TalkPacks (w : World) (t0 : Nat → Nat) (ht0 : ∀ i, i < 256 → t0 i < 4294967296) (a1 : Int) (w1 : (Lit.int .i64 a1).wf = true) (v2 : Value) (n2 : NoteD) (nw2 : n2.Wf) (rp2 : RepS AnyB w v2 n2.av) :
    Calls Tryz.prog 4 #[tabV t0, .int .i64 a1, v2] w fun e w' => e = .returned (.bool true) ∧ Below w.heap.size w w' :=
  (talkpacks_c t0 ht0 a1 n2 nw2 (i64R_of2 w1)).law (vs := [tabV t0, .int .i64 a1, v2]) rfl (rep_cons (.sc _) (rep_cons (.sc _) (rep_cons rp2 rep_nil)))
end Go.Proofs.YtlapcfnmmpbeeaaGreat
namespace Go.Proofs.YtlapcfnmmpbeeaaGreat.talkPacks
open Go.ChangeShapes Go.WideShapes Go.ChangeAt Go.RowKit
open Go.ChangeMaps (open_string shut_string)
theorem own : ownKnob Tryz.prog.godebug = none := by kernel_rfl
theorem laidOut : laidOutB Tryz.prog = true := by kernel_rfl
set_option maxRecDepth 100000 in
theorem lifted (os : Os) (started : os.Started) (H : Type) (enc : TypeId × Value → H) :
    ReturnsInHanded {} Tryz.checked os 4 .any (Rows.talkPacksSpec.pre6 enc Tryz.prog Tryz.f4 Rows.talkPacksRow.domain false) (Rows.talkPacksSpec.post enc Tryz.prog Tryz.f4 false true false false) := by
  refine returnsInHanded_of_change (C := Tryz.checked) own started (by kernel_rfl) Tryz.func4
    (ChangeSpec.witness6 (enc := enc) (C := Tryz.checked) false ⟨#[], #[tabV (fun _ => 0), .int .i64 0, .agg #[.int .i64 0, .int .i64 0, .int .i64 0, .int .i64 0, .int .i64 0, .int .i64 0, .int .i64 0, .int .i64 0, .int .i64 0, .slice none 0 0, .slice none 0 0, .slice none 0 0]], []⟩ 8 (by kernel_rfl) (by kernel_rfl) (by kernel_rfl) (by kernel_rfl)) ?_
  intro W base args ds gs before hval0 hW hcnd _
  have hval : ∀ (j : Nat) t v, Tryz.f4.params[j]? = some t → args[j]? = some v → Value.okWide Tryz.prog W .any base t v := hval0
  have hW' := hW
  obtain ⟨p, q, hA0, hV, rfl, hfz, hnd⟩ := hW
  have hA : DataW.TrodAll enc Tryz.prog W 0 (fun _ => true) true Tryz.f4.params.toList args.toList ds p := hA0
  rw [Tryz.params4] at hA hval
  obtain ⟨v0, vs0, d0, ds0, p0, q0, hargs, rfl, rfl, h0, r0⟩ := trodAll_cons hA
  obtain ⟨v1, vs1, d1, ds1, p1, q1, rfl, rfl, rfl, h1, r1⟩ := trodAll_cons r0
  obtain ⟨v2, vs2, d2, ds2, p2, q2, rfl, rfl, rfl, h2, r2⟩ := trodAll_cons r1
  obtain ⟨rfl, rfl, rfl⟩ := trodAll_nil r2
  obtain rfl : args = #[v0, v1, v2] := by cases args; simp_all
  obtain ⟨rfl, rfl⟩ := trodVars_none hV
  have k0 := h0
  have lt0 : ∀ x ∈ p0, x.block < W.heap.size := by obtain ⟨m, hm⟩ := k0; exact DataW.trod_lt m _ _ _ hm
  obtain ⟨t0, ht0, rfl⟩ := open_table Tryz.underlying51 Tryz.underlying49 (by kernel_rfl) (by kernel_rfl) (hval 0 51 v0 rfl rfl) h0
  obtain ⟨a1, rfl, rfl, rfl, w1⟩ := open_int Tryz.underlying3 (hval 1 3 v1 rfl rfl) h1
  have k2 := h2
  have lt2 : ∀ x ∈ p2, x.block < W.heap.size := by obtain ⟨m, hm⟩ := k2; exact DataW.trod_lt m _ _ _ hm
  obtain ⟨n2, nw2, rp2⟩ := open_NoteX (hval 2 28 v2 rfl rfl) h2
  clear hA0 hval0
  refine (walk_TalkPacks W t0 ht0 a1 w1 v2 n2 nw2 rp2).mono fun e W' ⟨he, bel⟩ => ?_; subst he; exact ⟨_, rfl, _, _, _, [], _, [], hW', trodAll_mk1 (shut_bool Tryz.underlying4 _), (trodAll_cons_mk (Below.trod laidOut (by kernel_rfl) (of_decide_eq_true (by kernel_rfl)) k0 bel lt0) (trodAll_cons_mk (shut_int Tryz.underlying3 w1) (trodAll_cons_mk (Below.trod laidOut (by kernel_rfl) (of_decide_eq_true (by kernel_rfl)) k2 bel lt2) trodAll_mk0))), rfl, bel.frame _, fun h => by cases h⟩
theorem over : Rows.talkPacksRow.holds Tryz.pinned (OpenSpec.ofChange Rows.talkPacksSpec) :=
  OpenClaim.holds_of_wide 4 Tryz.f4 rfl rfl rfl rfl rfl rfl rfl ⟨rfl, rfl, rfl, rfl, rfl⟩ rfl rfl rfl rfl rfl (by kernel_rfl) Tryz.func4 (by kernel_rfl)
    (of_decide_eq_true (by kernel_rfl)) (by unfold Func.isWrapper; first | (rw [if_pos (by decide +kernel)]; kernel_rfl) | (rw [if_neg (by decide +kernel)]; exact ⟨rfl, rfl⟩))
    (fun os started H enc _ => lifted os started H enc)
end Go.Proofs.YtlapcfnmmpbeeaaGreat.talkPacks
namespace Go.Proofs.YtlapcfnmmpbeeaaGreat
theorem talkPacks_holds : Rows.TalkPacksSaid := talkPacks.over
end Go.Proofs.YtlapcfnmmpbeeaaGreat
#print axioms Go.Proofs.YtlapcfnmmpbeeaaGreat.talkPacks_holds
