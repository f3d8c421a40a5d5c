/- A vault on a disk, plain: Add and Sync on a calm disk. No conditions. -/
import Derived.Test.YtgjpeldgjpgbcaaVltR
namespace Go.Proofs.Ytgjpeldgjpgbcaa
set_option linter.unusedSimpArgs false
set_option linter.unusedVariables false
open Go.RowKit

section
variable {t : Nat → Nat} {R : Int} {K : Nat} {F : Files} {d : DiskD} {f : Nat} {L : LogD} {b : List UInt8}
/-- The disk behind Add and Sync. -/
theorem calm_add (h : Rest R K F d) (hfu : d.fused = false) (hf : f < 4) (hL : L.file = (f : Int)) (hLd : L.down = false) (hb : b.length ≤ 60000) (hR : ((tot F + 8 + b.length : Nat) : Int) ≤ R) :
    vaddR t ⟨f, false⟩ L d b = 0 ∧ vaddV t ⟨f, false⟩ L d b = ⟨f, false⟩ ∧ vaddL t ⟨f, false⟩ L d b = { L with records := L.records + 1, used := L.used + (frameN t b).length, fresh := L.fresh + 1 } ∧ (vaddD t ⟨f, false⟩ L d b).Ok (K + 1) ∧
      vsyncR ⟨f, false⟩ (vaddL t ⟨f, false⟩ L d b) (vaddD t ⟨f, false⟩ L d b) = 0 ∧ vsyncV ⟨f, false⟩ (vaddL t ⟨f, false⟩ L d b) (vaddD t ⟨f, false⟩ L d b) = ⟨f, false⟩ ∧ (vsyncL ⟨f, false⟩ (vaddL t ⟨f, false⟩ L d b) (vaddD t ⟨f, false⟩ L d b)).file = (f : Int) ∧ (vsyncL ⟨f, false⟩ (vaddL t ⟨f, false⟩ L d b) (vaddD t ⟨f, false⟩ L d b)).down = false ∧
      Rest R (K + 1) (upd F f (F f ++ frameN t b)) (vsyncD ⟨f, false⟩ (vaddL t ⟨f, false⟩ L d b) (vaddD t ⟨f, false⟩ L d b)) ∧ (vsyncD ⟨f, false⟩ (vaddL t ⟨f, false⟩ L d b) (vaddD t ⟨f, false⟩ L d b)).fused = false := by
  have hdk := h.dark
  have e0 : ¬ ((⟨(f : Int), false⟩ : VltD).down || d.dark) = true := by rw [hdk]; show ¬ (false || false) = true; decide
  have e1 : ¬ (L.down || d.dark) = true := by rw [hdk, hLd]; decide
  have h60 : ¬ 60000 < b.length := by omega
  have tz : tot (fun _ => ([] : List UInt8)) = 0 := rfl
  obtain ⟨g1, _, g3⟩ := h.gro.app hf (b := frameN t b) (by rw [tz, frameN_len]; omega)
  have hd1 : (appDi d f (frameN t b)).dark = false := (appD_dark hfu _ _).trans hdk
  have hf1 : (appDi d f (frameN t b)).fused = false := (appD_fused _ _).trans hfu
  have ha : appRi d f (frameN t b) = 0 := by
    rcases g3 hdk with ⟨c, _⟩ | ⟨_, c⟩
    · exact c
    · rw [hd1] at c; cases c
  have a1 : addR t L d b = 0 := by unfold addR; rw [if_neg e1, if_neg h60, hL, ha]
  have a2 : addL t L d b = { L with records := L.records + 1, used := L.used + (frameN t b).length, fresh := L.fresh + 1 } := by unfold addL; rw [if_neg e1, if_neg h60, hL, if_pos ha]
  have a3 : addD t L d b = appDi d f (frameN t b) := by unfold addD; rw [if_neg e1, if_neg h60, hL]
  have v1 : vaddR t ⟨f, false⟩ L d b = 0 := by unfold vaddR; rw [if_neg e0, a1]
  have v2 : vaddV t ⟨f, false⟩ L d b = ⟨f, false⟩ := by unfold vaddV; rw [if_neg e0, a1]; rfl
  have v3 : vaddL t ⟨f, false⟩ L d b = { L with records := L.records + 1, used := L.used + (frameN t b).length, fresh := L.fresh + 1 } := by unfold vaddL; rw [if_neg e0, a2]
  have v4 : vaddD t ⟨f, false⟩ L d b = appDi d f (frameN t b) := by unfold vaddD; rw [if_neg e0, a3]
  have hn1 : (appDi d f (frameN t b)).n = upd F f (F f ++ frameN t b) := by
    funext i
    rcases Nat.lt_or_ge i 4 with hi | hi
    · rw [g1.nn hd1 hi]
      unfold upd
      split
      · rename_i e; subst e; rfl
      · rw [List.append_nil]
    · have x1 := g1.ok.nbig i hi
      have x2 := h.gro.ok.nbig i hi
      rw [h.n] at x2
      rw [x1, upd_ne (by omega), x2]
  have s0 : ∀ L' : LogD, L'.down = false → lsyncR L' (appDi d f (frameN t b)) = 0 ∧ lsyncL L' (appDi d f (frameN t b)) = { L' with fresh := 0 } ∧ lsyncD L' (appDi d f (frameN t b)) = syncD (appDi d f (frameN t b)) ∧ Rest R (K + 1) (upd F f (F f ++ frameN t b)) (syncD (appDi d f (frameN t b))) := fun L' hl => by
    have e2 : ¬ (L'.down || (appDi d f (frameN t b)).dark) = true := by rw [hd1, hl]; decide
    rcases (sync_ok g1.ok).2 hd1 with ⟨q1, _, q2⟩ | ⟨_, _, _, q⟩
    · rw [hn1, g1.room] at q2
      unfold lsyncR lsyncL lsyncD
      rw [if_neg e2, if_neg e2, if_neg e2, q1]
      exact ⟨rfl, rfl, rfl, q2⟩
    · rw [hf1] at q; cases q
  have e3 : ¬ ((⟨(f : Int), false⟩ : VltD).down || (appDi d f (frameN t b)).dark) = true := by rw [hd1]; show ¬ (false || false) = true; decide
  refine ⟨v1, v2, v3, by rw [v4]; exact g1.ok, ?_⟩
  rw [v3, v4]
  obtain ⟨s1, s2, s3, s4⟩ := s0 { L with records := L.records + 1, used := L.used + (frameN t b).length, fresh := L.fresh + 1 } hLd
  unfold vsyncR vsyncV vsyncL vsyncD
  simp only [if_neg e3]
  rw [s1, s2, s3]
  exact ⟨rfl, rfl, hL, hLd, s4, by rw [syncD_fused]; exact hf1⟩
end
end Go.Proofs.Ytgjpeldgjpgbcaa
