/- The law punnetlaw30.TalkTells returns true for every input that can be read, and each argument reads behind the call as before. No conditions. (The frame was written by a program, mklaw.py, after the kit's proof-skeleton.) -/
import Derived.Below
import Derived.ChangeOld
import Derived.OpenShut
import Derived.ProofKit
import Derived.ShutString
import Derived.Test.YtlapcfnmmpbeeaaRows
import Derived.Test.YtlapcfnmmpbeeaaPT50
import Derived.Test.YtlapcfnmmpbeeaaPT51
set_option linter.unusedSimpArgs false
set_option linter.unusedVariables false
namespace Go.Proofs.Ytlapcfnmmpbeeaa
set_option maxRecDepth 100000
open Go.RowKit
theorem talktells_c (f : Int) (hf : i64R f) (n : NoteD) (hw : n.Wf) (at_ : Int) (h63 : at_ ≤ 9223372036854775807) (A : Int) (hA : 0 ≤ A ∧ A < 4294967296) (cut : Int) : AC Try.prog 3 [.sc (.int .i64 f), n.av, .sc (.int .i64 at_), .sc (.int .u32 A), .sc (.int .i64 cut)] (fun r => r = .s (AB true)) := by
  cases h : heavyN n with
  | true => exact tt_heavy f n at_ A cut h
  | false =>
  by_cases ha : at_ < 0
  · exact tt_neg f n at_ A cut h ha
  cases hok : okF f with
  | false => exact tt_no f n at_ A cut h (by omega) (z := 2) (by decide) (pack_arg byteN f hok n)
  | true =>
  cases hn : noteB n with
  | false => exact tt_no f n at_ A cut h (by omega) (z := 5) (by decide) (pack_form byteN f hok n hn)
  | true =>
  obtain ⟨a, rfl⟩ : ∃ a : Nat, at_ = a := ⟨at_.toNat, by omega⟩
  obtain ⟨B, rfl⟩ : ∃ B : Nat, A = B := ⟨A.toNat, by omega⟩
  have hp := bytesN_pos hok hw hn
  have hb := bytesN_len (f := f) hn
  have hl := frameN_len byteN (bytesN f n)
  refine tt_ok f n h a B (by omega) h63 cut (l := frameN byteN (bytesN f n)) (by omega) (by omega) (pack_ok byteN (fun _ h => byteN_lt h) f hf hok n hw hn) (fun k hk => ?_) (fun F1 E m lx hT hlen hm hnum => ?_)
  · have hc := opens_c byteN (fun _ h => byteN_lt h) ((frameN byteN (bytesN f n)).take k) (by rw [List.length_take]; omega)
    rwa [openP_cut byteN (bytesN f n) (by omega) (by omega)] at hc
  have hc := opens_c byteN (fun _ h => byteN_lt h) (lx.take (frameN byteN (bytesN f n)).length) (by rw [List.length_take]; omega)
  rw [List.take_of_length_le (Nat.le_of_eq hlen)] at hc ⊢
  rwa [openP_flip f hok n hw hn (by omega) hnum (Nat.lt_of_lt_of_le hm (Nat.pow_le_pow_right (by omega) (Nat.min_le_right _ _))) (Nat.lt_of_lt_of_le hm (show 2 ^ _ ≤ 2 ^ 32 from Nat.pow_le_pow_right (by omega) (Nat.min_le_left _ _))) (by unfold TT at hT; omega)] at hc
theorem walk_TalkTells (w : World) (a0 : Int) (w0 : (Lit.int .i64 a0).wf = true) (v1 : Value) (n1 : NoteD) (nw1 : n1.Wf) (rp1 : RepS AnyB w v1 n1.av) (a2 : Int) (w2 : (Lit.int .i64 a2).wf = true) (a3 : Int) (w3 : (Lit.int .u32 a3).wf = true) (a4 : Int) (w4 : (Lit.int .i64 a4).wf = true) :
    Calls Try.prog 3 #[.int .i64 a0, v1, .int .i64 a2, .int .u32 a3, .int .i64 a4] w fun e w' => e = .returned (.bool true) ∧ Below w.heap.size w w' := by
  have b2 := bounds_i64 w2
  have b3 := bounds_u32 w3
  exact (talktells_c a0 (i64R_of2 w0) n1 nw1 a2 b2.2 a3 ⟨b3.1, by omega⟩ a4).law (vs := [.int .i64 a0, v1, .int .i64 a2, .int .u32 a3, .int .i64 a4]) rfl (rep_cons (.sc _) (rep_cons rp1 (rep_cons (.sc _) (rep_cons (.sc _) (rep_cons (.sc _) rep_nil)))))
end Go.Proofs.Ytlapcfnmmpbeeaa
namespace Go.Proofs.Ytlapcfnmmpbeeaa.talkTells
open Go.ChangeShapes Go.WideShapes Go.ChangeAt Go.RowKit
open Go.ChangeMaps (open_string shut_string)
theorem own : ownKnob Try.prog.godebug = none := by kernel_rfl
theorem laidOut : laidOutB Try.prog = true := by kernel_rfl
set_option maxRecDepth 100000 in
theorem lifted (os : Os) (started : os.Started) (H : Type) (enc : TypeId × Value → H) :
    ReturnsInHanded {} Try.checked os 3 .any (Rows.talkTellsSpec.pre6 enc Try.prog Try.f3 Rows.talkTellsRow.domain false) (Rows.talkTellsSpec.post enc Try.prog Try.f3 false true false false) := by
  refine returnsInHanded_of_change (C := Try.checked) own started (by kernel_rfl) Try.func3
    (ChangeSpec.witness6 (enc := enc) (C := Try.checked) false ⟨#[], #[.int .i64 0, .agg #[.int .i64 0, .int .i64 0, .int .i64 0, .int .i64 0, .int .i64 0, .int .i64 0, .int .i64 0, .int .i64 0, .int .i64 0, .slice none 0 0, .slice none 0 0, .slice none 0 0], .int .i64 0, .int .u32 0, .int .i64 0], []⟩ 8 (by kernel_rfl) (by kernel_rfl) (by kernel_rfl) (by kernel_rfl)) ?_
  intro W base args ds gs before hval0 hW hcnd _
  have hval : ∀ (j : Nat) t v, Try.f3.params[j]? = some t → args[j]? = some v → Value.okWide Try.prog W .any base t v := hval0
  have hW' := hW
  obtain ⟨p, q, hA0, hV, rfl, hfz, hnd⟩ := hW
  have hA : DataW.TrodAll enc Try.prog W 0 (fun _ => true) true Try.f3.params.toList args.toList ds p := hA0
  rw [Try.params3] at hA hval
  obtain ⟨v0, vs0, d0, ds0, p0, q0, hargs, rfl, rfl, h0, r0⟩ := trodAll_cons hA
  obtain ⟨v1, vs1, d1, ds1, p1, q1, rfl, rfl, rfl, h1, r1⟩ := trodAll_cons r0
  obtain ⟨v2, vs2, d2, ds2, p2, q2, rfl, rfl, rfl, h2, r2⟩ := trodAll_cons r1
  obtain ⟨v3, vs3, d3, ds3, p3, q3, rfl, rfl, rfl, h3, r3⟩ := trodAll_cons r2
  obtain ⟨v4, vs4, d4, ds4, p4, q4, rfl, rfl, rfl, h4, r4⟩ := trodAll_cons r3
  obtain ⟨rfl, rfl, rfl⟩ := trodAll_nil r4
  obtain rfl : args = #[v0, v1, v2, v3, v4] := by cases args; simp_all
  obtain ⟨rfl, rfl⟩ := trodVars_none hV
  obtain ⟨a0, rfl, rfl, rfl, w0⟩ := open_int Try.underlying3 (hval 0 3 v0 rfl rfl) h0
  have k1 := h1
  have lt1 : ∀ x ∈ p1, x.block < W.heap.size := by obtain ⟨m, hm⟩ := k1; exact DataW.trod_lt m _ _ _ hm
  obtain ⟨n1, nw1, rp1⟩ := open_NoteX (hval 1 28 v1 rfl rfl) h1
  obtain ⟨a2, rfl, rfl, rfl, w2⟩ := open_int Try.underlying3 (hval 2 3 v2 rfl rfl) h2
  obtain ⟨a3, rfl, rfl, rfl, w3⟩ := open_int Try.underlying29 (hval 3 29 v3 rfl rfl) h3
  obtain ⟨a4, rfl, rfl, rfl, w4⟩ := open_int Try.underlying3 (hval 4 3 v4 rfl rfl) h4
  clear hA0 hval0
  refine (walk_TalkTells W a0 w0 v1 n1 nw1 rp1 a2 w2 a3 w3 a4 w4).mono fun e W' ⟨he, bel⟩ => ?_; subst he; exact ⟨_, rfl, _, _, _, [], _, [], hW', trodAll_mk1 (shut_bool Try.underlying4 _), (trodAll_cons_mk (shut_int Try.underlying3 w0) (trodAll_cons_mk (Below.trod laidOut (by kernel_rfl) (of_decide_eq_true (by kernel_rfl)) k1 bel lt1) (trodAll_cons_mk (shut_int Try.underlying3 w2) (trodAll_cons_mk (shut_int Try.underlying29 w3) (trodAll_cons_mk (shut_int Try.underlying3 w4) trodAll_mk0))))), rfl, bel.frame _, fun h => by cases h⟩
theorem over : Rows.talkTellsRow.holds Try.pinned (OpenSpec.ofChange Rows.talkTellsSpec) :=
  OpenClaim.holds_of_wide 3 Try.f3 rfl rfl rfl rfl rfl rfl rfl ⟨rfl, rfl, rfl, rfl, rfl⟩ rfl rfl rfl rfl rfl (by kernel_rfl) Try.func3 (by kernel_rfl)
    (of_decide_eq_true (by kernel_rfl)) (by unfold Func.isWrapper; first | (rw [if_pos (by decide +kernel)]; kernel_rfl) | (rw [if_neg (by decide +kernel)]; exact ⟨rfl, rfl⟩))
    (fun os started H enc _ => lifted os started H enc)
end Go.Proofs.Ytlapcfnmmpbeeaa.talkTells
namespace Go.Proofs.Ytlapcfnmmpbeeaa
theorem talkTells_holds : Rows.TalkTellsSaid := talkTells.over
end Go.Proofs.Ytlapcfnmmpbeeaa
#print axioms Go.Proofs.Ytlapcfnmmpbeeaa.talkTells_holds
