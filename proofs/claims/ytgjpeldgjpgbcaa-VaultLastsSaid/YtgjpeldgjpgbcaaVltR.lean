/- A vault on a disk, plain: Fold and a crash. No conditions. -/
import Derived.Test.YtgjpeldgjpgbcaaVltP
namespace Go.Proofs.Ytgjpeldgjpgbcaa
set_option linter.unusedSimpArgs false
set_option linter.unusedVariables false
open Go.RowKit

theorem vfile_succ (E : Nat) : vfile (E + 1) = 5 - vfile E := by unfold vfile; omega
theorem vfile_23 (E : Nat) : vfile E = 2 ∨ vfile E = 3 := by unfold vfile; omega
section
variable {t : Nat → Nat} {R : Int} {K : Nat} {F : Files} {d : DiskD} {c E : Nat} {hh x : List UInt8} {L : LogD}
theorem fold_crash (h : Rest R K F d) (hs : SI t F 0 c E hh) (hL : L.file = ((vfile E : Nat) : Int)) (hLd : L.down = false) (hE : E < 4611686018427387904) (hx : x.length ≤ 59992) (hR : ((tot F + 16 + x.length : Nat) : Int) ≤ R) (keep : Int) :
    ∃ F', Rest R (K + 4) F' (crashD (foldO t ⟨((vfile E : Nat) : Int), false⟩ ⟨0, c, E, hh, false⟩ L d (vfile E) c E x).d keep) ∧ (∀ i, F' i = F i ∨ (F' i).length ≤ 16 + x.length) ∧
      ((¬ (foldO t ⟨((vfile E : Nat) : Int), false⟩ ⟨0, c, E, hh, false⟩ L d (vfile E) c E x).r = 0 ∧ SI t F' 0 c E hh ∧ F' (vfile E) = F (vfile E)) ∨ (SI t F' 0 (1 - c) (E + 1) x ∧ F' (vfile (E + 1)) = [])) := by
  have hc2 := hs.c2
  have hf := vfile_23 E
  rw [vfile_succ]
  generalize vfile E = f at hL hf ⊢
  have hfl : (frameN t (snapN (E + 1) x)).length = 16 + x.length := by rw [frameN_len, snapN_len]; omega
  unfold foldO
  rw [if_neg (by show ¬ (false || d.dark) = true; rw [h.dark]; decide)]
  rcases cut_ok h.gro.ok (show 5 - f < 4 by omega) (n := 0) (Nat.zero_le _) h.dark with ⟨c1, c2, c3, c4⟩ | ⟨c1, c2, c3⟩
  · have c1' : cutR d (5 - f) 0 = 10 := c1
    have c2' : cutD d (5 - f) 0 = burnD d 1 := c2
    rw [if_neg (by rw [c1']; decide), c2']
    exact ⟨F, ((h.gro.burn 1 (by omega) (.inl c3)).self keep).mono (by omega), fun i => .inl rfl, .inl ⟨show ¬ (10 : Int) = 0 by decide, hs, rfl⟩⟩
  · have c1' : cutR d (5 - f) 0 = 0 := c1
    have c2' : cutD d (5 - f) 0 = cutD1 (burnD d 1) (5 - f) 0 := c2
    have c3' : (cutD d (5 - f) 0).dark = false := c3
    have hp : Pend R (K + 1) F (5 - f) (cutD d (5 - f) 0) := ⟨cutD_Ok h.gro.ok (by omega) 0, by rw [c2']; exact h.gro.room, by rw [c2']; exact h.gro.l, by rw [c2']; show d.q ++ [_] = _; rw [h.q]; rfl, by rw [c2']; show upd d.n _ ((d.n _).take 0) = _; rw [h.n, List.take_zero], c3'⟩
    have hg := put_go (t := t) (S := ⟨0, c, E, hh, false⟩) (d := cutD d (5 - f) 0) (f := 0) (c := c) (e := E) (b := x) (by show ¬ (false || _) = true; rw [c3']; decide) (by omega) (by omega)
    have ht := tot_upd (s := F) (show 5 - f < 4 by omega) []
    have hs1 : SI t (upd F (5 - f) []) 0 c E hh := hs.other ⟨by omega, by omega⟩
    rw [if_pos c1', hg.1, hg.2.2]
    rcases hp.write (o := 0 + (1 - c)) (by omega) (b := frameN t (snapN (E + 1) x)) (by omega) (by simp at ht; omega) with ⟨w1, w2, w3⟩ | ⟨w1, w2, w3, w4⟩
    · rw [if_pos w1]
      have hs2 : SI t (upd (upd F (5 - f) []) (0 + (1 - c)) (frameN t (snapN (E + 1) x))) 0 (1 - c) (E + 1) x := hs1.full hE hx
      have hsz : ∀ i, upd (upd F (5 - f) []) (0 + (1 - c)) (frameN t (snapN (E + 1) x)) i = F i ∨ (upd (upd F (5 - f) []) (0 + (1 - c)) (frameN t (snapN (E + 1) x)) i).length ≤ 16 + x.length := fun i => by
        unfold upd
        split
        · right; omega
        · split
          · right; simp
          · left; rfl
      have hnx : upd (upd F (5 - f) []) (0 + (1 - c)) (frameN t (snapN (E + 1) x)) (5 - f) = [] := by rw [upd_ne (by omega), upd_eq]
      have he : emptyD L (wrD (cutD d (5 - f) 0) (0 + (1 - c)) (frameN t (snapN (E + 1) x))) = cutD (wrD (cutD d (5 - f) 0) (0 + (1 - c)) (frameN t (snapN (E + 1) x))) f 0 := by
        unfold emptyD
        rw [if_neg (by rw [hLd, w2.dark]; decide), hL]
        unfold cutDi
        rw [if_pos (by omega), Int.toNat_natCast]
      show ∃ F', Rest R (K + 4) F' (crashD (emptyD L _) keep) ∧ _
      rw [he]
      rcases cut_ok w2.gro.ok (show f < 4 by omega) (n := 0) (Nat.zero_le _) w2.dark with ⟨e1, e2, e3, e4⟩ | ⟨e1, e2, e3⟩
      · have e2' : cutD _ f 0 = burnD _ 1 := e2
        rw [e2']
        exact ⟨_, ((w2.gro.burn 1 (by omega) (.inl e3)).self keep).mono (by omega), hsz, .inr ⟨hs2, hnx⟩⟩
      · have e2' : cutD _ f 0 = cutD1 (burnD _ 1) f 0 := e2
        rw [e2']
        obtain ⟨F', g1, g2⟩ := cut_crash w2 (show f < 4 by omega) (n := 0) (Nat.zero_le _) keep
        refine ⟨F', g1.mono (by omega), ?_⟩
        rcases g2 with rfl | rfl
        · exact ⟨hsz, .inr ⟨hs2, hnx⟩⟩
        · refine ⟨fun i => ?_, .inr ⟨hs2.other ⟨by omega, by omega⟩, by rw [upd_ne (by omega)]; exact hnx⟩⟩
          by_cases hi : i = f
          · subst hi; right; rw [upd_eq]; simp
          · rw [upd_ne hi]; exact hsz i
    · have w1' : ¬ wrR (cutD d (5 - f) 0) (0 + (1 - c)) (frameN t (snapN (E + 1) x)) = 0 := by rw [w1]; decide
      rw [if_neg w1']
      obtain ⟨F', g1, g2⟩ := w4 keep
      refine ⟨F', g1.mono (by omega), ?_⟩
      rcases g2 with rfl | rfl | ⟨p, p1, rfl⟩
      · exact ⟨fun i => .inl rfl, .inl ⟨w1', hs, rfl⟩⟩
      · refine ⟨fun i => ?_, .inl ⟨w1', hs1, upd_ne (by omega)⟩⟩
        unfold upd
        split
        · right; simp
        · left; rfl
      · refine ⟨fun i => ?_, ?_⟩
        · have := p1.length_le
          unfold upd
          split
          · right; omega
          · split
            · right; simp
            · left; rfl
        · rcases Nat.lt_or_ge p.length (frameN t (snapN (E + 1) x)).length with hl | hl
          · left
            have hz : (slotN t p).1 = 0 := by rw [slot_torn (by rw [snapN_len]; omega) p1 hl]
            exact ⟨w1', hs1.torn hz, by rw [upd_ne (by omega), upd_ne (by omega)]⟩
          · right
            rw [List.IsPrefix.eq_of_length_le p1 hl]
            exact ⟨hs1.full hE hx, by rw [upd_ne (by omega), upd_eq]⟩
end
end Go.Proofs.Ytgjpeldgjpgbcaa
