/- Fold's contract, the new log under the old one's number. -/
import Derived.Test.YtgjpeldgjpgbcaaVltG
namespace Go.Proofs.Ytgjpeldgjpgbcaa
set_option linter.unusedSimpArgs false
set_option linter.unusedVariables false
set_option maxRecDepth 100000
open Go.RowKit

theorem fat_mv {j gj i g' : Nat} (p : List AV) (t : Nat → Nat) (ys : List AV) : (fatC p t ys).map (mvA j gj i g') = fatC (p.map (mvA j gj i g')) t (ys.map (mvA j gj i g')) := by
  have e : (tabA t).map (mvA j gj i g') = tabA t := by
    unfold tabA
    rw [List.map_map]
    rfl
  unfold fatC
  simp only [List.map_append, e]
section
variable (gv gs gl G h : Nat) (t : Nat → Nat) (V : VltD) (S : SltD) (L0 L : LogD) (d : DiskD)
theorem mv_fold : MvS [⟨gv, vltC G gs 4 (h + 1) t V⟩, ⟨gs, sltC G t S⟩, ⟨gl, logC 3 G t L0⟩, ⟨G, .obj (DiskP d)⟩, ⟨h + 1, logC 3 G t L⟩] (VltT5 gv gs (gl + 1) G (h + 1) t V S L d) 2 4 (h + 1) (gl + 1) := by
  have e1 : mvC 4 (h + 1) 2 (gl + 1) (vltC G gs 4 (h + 1) t V) = vltC G gs 2 (gl + 1) t V :=
    congrArg (TC.box 126) ((fat_mv _ _ _).trans (by simp [mvA]))
  have e2 : mvC 4 (h + 1) 2 (gl + 1) (sltC G t S) = sltC G t S :=
    congrArg (TC.box 119) ((fat_mv _ _ _).trans (by simp [mvA]))
  refine ⟨by decide, ⟨_, _, rfl, ?_⟩, ⟨gl, _, _, rfl, Nat.lt_succ_self gl⟩, rfl, ?_⟩
  · rw [fat_mv]
    rfl
  · intro k h1 h2
    match k with
    | 0 => exact congrArg (fun c => some (TK.mk gv c)) e1.symm
    | 1 => exact congrArg (fun c => some (TK.mk gs c)) e2.symm
    | 2 => exact absurd rfl h1
    | 3 => rfl
    | 4 => exact absurd rfl h2
    | k + 5 => rfl
end
/-- A contract, some tickets of whose answer are dropped. -/
theorem ACo.drop {P : Program} {f : FuncId} {args : List AV} {os : List TK} {R R' : AV → List TK → Prop} (h : ACo P f args os R) (hR : ∀ y os', R y os' → ∃ scr, clo2 y = true ∧ cleanS (offs (fun j => (os'.getD j ⟨0, .off⟩).g) os' scr) = true ∧ R' y (offs (fun j => (os'.getD j ⟨0, .off⟩).g) os' scr)) : ACo P f args os R' := fun F ρ w vs h1 h2 h3 =>
  (h F ρ w vs h1 h2 h3).mono fun _ _ ⟨v, y, ρ', os', a, b, c, d, e, g, r⟩ => by
    obtain ⟨scr, hy, hc, r'⟩ := hR y os' r
    obtain ⟨b', mv⟩ := b.offs scr (fun j => (os'.getD j ⟨0, .off⟩).g) (fun j tk hj => by simp [List.getD, hj])
    exact ⟨v, y, ρ', _, a, b', (offs_get _ scr os' 0).1.trans c, hc, clo2_ok hy, clo2_on (fun b hb => ⟨hb.1, fun q tk hq hf => by
      rw [(offs_get _ scr os' q).2] at hq
      split at hq
      · injection hq with hq
        subst hq
        exact hf
      · exact hb.2 q tk hq hf⟩) hy g, r'⟩
theorem vfold_dn5 (gv gs gl G h : Nat) (t : Nat → Nat) (V : VltD) (S : SltD) (L : LogD) (d : DiskD) (b : List UInt8) (hdn : (V.down || d.dark) = true) : ACo Try.prog 64 [.bx 0 gv 0, .sl (byA b)] (VltT5 gv gs gl G h t V S L d) (fun y os' => y = .sc (.int .i64 10) ∧ os' = VltT5 gv gs gl G h t ⟨V.file, true⟩ S L d) := by
  refine ACo.of' (st0 := [⟨gv, .box 126 (fatC [.bx 3 G 0] t [.bx 1 gs 0, .bx 2 gl 0, .sc (.int .i64 V.file), .sc (.bool V.down)])⟩, ⟨gs, .box 119 (fatC [.bx 3 G 0] t [.sc (.int .i64 S.file), .sc (.int .i64 S.counts), .sc (.int .i64 S.epoch), .sl (byA S.bytes), .sc (.bool S.down)])⟩, ⟨gl, .box 111 (fatC [.bx 3 G 0] t [.sc (.int .i64 L.file), .sc (.bool L.down), .sc (.int .i64 L.records), .sc (.int .i64 L.used), .sc (.int .i64 L.fresh)])⟩, ⟨G, .obj (DiskP d)⟩, ⟨h, .off⟩]) 75 0 Try.func64 rfl 5 ?_
  refine AW.seq ?_
  refine AW.region ?_
  refine AL.ra ?_
  refine AL.nil ?_
  change AW _ _ _ _ _
  refine AW.seq ?_
  refine AW.seq ?_
  refine AW.region ?_
  refine AL.rm ?_
  refine AL.op rfl (calloV (vready_x gv gs gl G t V S L d hdn) [0, 1, 2, 3] ?_)
  rintro y os' ⟨rfl, rfl⟩
  refine AL.noV ?_
  refine AL.ra ?_
  refine AL.nil ?_
  change AW _ _ _ _ _
  refine AW.seq ?_
  refine AW.region ?_
  refine AL.rm ?_
  refine AL.r (rd_bin rfl rfl rfl (fun _ => rfl)) ?_
  refine AL.nil ?_
  change AW _ _ _ _ _
  refine AW.cond_t rfl ?_
  refine AW.seq ?_
  refine AW.region ?_
  refine AL.rm ?_
  refine AL.ra ?_
  refine AL.nil ?_
  change AW _ _ _ _ _
  refine AW.ret ?_
  repeat with_reducible first | refine thenA_ret ?_ | refine inBlockA_ret ?_
  with_reducible first | refine retO_ret ?_ | refine retO_normal ?_
  refine reso1V rfl (ResV.tmp rfl) rfl ?_
  exact ⟨rfl, rfl⟩
/-- What Fold leaves: the code, and all behind it. -/
structure FoldO where
  r : Int
  V : VltD
  S : SltD
  L : LogD
  d : DiskD
def foldO (t : Nat → Nat) (V : VltD) (S : SltD) (L : LogD) (d : DiskD) (f c e : Nat) (b : List UInt8) : FoldO :=
  if (V.down || d.dark) = true then ⟨10, ⟨V.file, true⟩, S, L, d⟩
  else if cutR d (5 - f) 0 = 0 then
    (if sputR t S (cutD d (5 - f) 0) 0 c e b = 0 then ⟨0, ⟨((5 - f : Nat) : Int), false⟩, sputS t S (cutD d (5 - f) 0) 0 c e b, ⟨((5 - f : Nat) : Int), false, 0, 0, 0⟩, emptyD L (sputD t S (cutD d (5 - f) 0) 0 c e b)⟩
     else ⟨sputR t S (cutD d (5 - f) 0) 0 c e b, ⟨f, decide (sputR t S (cutD d (5 - f) 0) 0 c e b = 10)⟩, sputS t S (cutD d (5 - f) 0) 0 c e b, L, sputD t S (cutD d (5 - f) 0) 0 c e b⟩)
  else ⟨10, ⟨f, true⟩, S, L, cutD d (5 - f) 0⟩
theorem cut0_ten {d : DiskD} {f : Nat} (h : ¬ cutR d f 0 = 0) : cutR d f 0 = 10 := by
  unfold cutR at h ⊢
  rw [if_neg (by omega)] at h ⊢
  split
  · rfl
  · rename_i h1
    rw [if_neg h1] at h
    split
    · rfl
    · rename_i h2
      rw [if_neg h2] at h
      exact absurd rfl h
theorem sputD_Ok {t : Nat → Nat} {S : SltD} {d : DiskD} {k f c e : Nat} {b : List UInt8} (hd : d.Ok k) (hf : f < 3) : (sputD t S d f c e b).Ok (k + 2) := by
  unfold sputD
  split
  · exact hd.mono (by omega)
  · split
    · exact hd.mono (by omega)
    · split
      · exact hd.mono (by omega)
      · exact wrD_Ok hd (by omega) _
section
variable (gv gs gl G h : Nat) (t : Nat → Nat) (ht : ∀ i, i < 256 → t i < 4294967296) (V : VltD) (S : SltD) (L : LogD) {k : Nat} (d : DiskD) (hd : d.Ok k) (hk : k ≤ 800000) (f : Nat)
variable (hf : f = 2 ∨ f = 3) (hV : V.file = (f : Int)) {c e : Nat} (hS : S.At 0 c e)
include hf hd hk ht hV hS
theorem vfold_c (b : List UInt8) : ACo Try.prog 64 [.bx 0 gv 0, .sl (byA b)] (VltT5 gv gs gl G h t V S L d) (fun y os' => ∃ gl' h', y = .sc (.int .i64 (foldO t V S L d f c e b).r) ∧ os' = VltT5 gv gs gl' G h' t (foldO t V S L d f c e b).V (foldO t V S L d f c e b).S (foldO t V S L d f c e b).L (foldO t V S L d f c e b).d) := by
  by_cases hdn : (V.down || d.dark) = true
  · have e1 : foldO t V S L d f c e b = ⟨10, ⟨V.file, true⟩, S, L, d⟩ := if_pos hdn
    rw [e1]
    exact (vfold_dn5 gv gs gl G h t V S L d b hdn).mono fun y os' hr => ⟨gl, h, hr⟩
  · obtain ⟨F, dn⟩ := V
    have h1 : dn = false ∧ d.dark = false := by
      cases dn <;> cases hx : d.dark <;> simp [hx] at hdn ⊢
    obtain ⟨rfl, hdk⟩ := h1
    have hV' : F = (f : Int) := hV
    subst hV'
    by_cases hc : cutR d (5 - f) 0 = 0
    · by_cases hp : sputR t S (cutD d (5 - f) 0) 0 c e b = 0
      · have e1 : foldO t ⟨f, false⟩ S L d f c e b = ⟨0, ⟨((5 - f : Nat) : Int), false⟩, sputS t S (cutD d (5 - f) 0) 0 c e b, ⟨((5 - f : Nat) : Int), false, 0, 0, 0⟩, emptyD L (sputD t S (cutD d (5 - f) 0) 0 c e b)⟩ := by
          unfold foldO; rw [if_neg hdn, if_pos hc, if_pos hp]
        rw [e1]
        refine (vfold_ok gv gs gl G h t ht S L d hd hk f hf hdk hc hS b ((sputD_Ok (cutD_Ok hd (by omega) 0) (by omega)).mono (by omega)) hp).mv fun y os' hr => .inr ?_
        obtain ⟨rfl, rfl⟩ := hr
        exact ⟨2, 4, h + 1, gl + 1, _, mv_fold gv gs gl G h t ⟨((5 - f : Nat) : Int), false⟩ (sputS t S (cutD d (5 - f) 0) 0 c e b) (emptyL L (sputD t S (cutD d (5 - f) 0) 0 c e b)) ⟨((5 - f : Nat) : Int), false, 0, 0, 0⟩ (emptyD L (sputD t S (cutD d (5 - f) 0) 0 c e b)), rfl, (by simp [cleanS, cleanT, VltT5, VltT, fat_all, okC, liveA, TC.isB]), rfl, gl + 1, h + 1, rfl, rfl⟩
      · have e1 : foldO t ⟨f, false⟩ S L d f c e b = ⟨sputR t S (cutD d (5 - f) 0) 0 c e b, ⟨f, decide (sputR t S (cutD d (5 - f) 0) 0 c e b = 10)⟩, sputS t S (cutD d (5 - f) 0) 0 c e b, L, sputD t S (cutD d (5 - f) 0) 0 c e b⟩ := by
          unfold foldO; rw [if_neg hdn, if_pos hc, if_neg hp]
        rw [e1]
        refine (vfold_put gv gs gl G h t ht S L d hd hk f hf hdk hc hS b hp).drop fun y os' hr => ?_
        obtain ⟨rfl, rfl⟩ := hr
        exact ⟨[4], rfl, (by simp [cleanS, cleanT, logC, offs, VltT, fat_all, okC, liveA, TC.isB]), gl, h + 1, rfl, rfl⟩
    · have e1 : foldO t ⟨f, false⟩ S L d f c e b = ⟨10, ⟨f, true⟩, S, L, cutD d (5 - f) 0⟩ := by
        unfold foldO; rw [if_neg hdn, if_neg hc]
      rw [e1]
      exact (vfold_cut gv gs gl G h t S L d hd hk f hf b hdk (cut0_ten hc)).mono fun y os' hr => ⟨gl, h, hr⟩
end
end Go.Proofs.Ytgjpeldgjpgbcaa
