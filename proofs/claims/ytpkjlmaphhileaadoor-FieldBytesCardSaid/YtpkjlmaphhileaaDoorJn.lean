/- Ways that part and meet again. No conditions. -/
import Derived.Test.YtpkjlmaphhileaaDoorMb
namespace Go.Proofs.YtpkjlmaphhileaaDoor
set_option linter.unusedSimpArgs false
set_option linter.unusedVariables false
open Go.RowKit

section
variable {P : Program} {c d : Code} {Q : APost} {t : List AV} {st : List TK}
theorem Sk.go {tscr : List Nat} {s' b : List TK} (hsk : Sk tscr 0 s' b) {cc : Code} {QQ : APost} {tt : List AV} (h : ∀ gs, AW P cc QQ tt (offs gs b tscr)) : AW P cc QQ tt s' := by
  obtain ⟨h1, h2⟩ := hsk.get
  let gs : Nat → Nat := fun j => ((s'[j]?).map TK.g).getD 0
  refine AW.offs tscr gs (fun j tk hj => by simp [gs, hj]) ?_
  have e : Go.Proofs.YtpkjlmaphhileaaDoor.offs gs s' tscr = Go.Proofs.YtpkjlmaphhileaaDoor.offs gs b tscr := by
    apply List.ext_getElem?
    intro j
    rw [(offs_get gs tscr s' j).2, (offs_get gs tscr _ j).2, h1]
    rcases h2 j with h3 | h3
    · rw [Nat.zero_add] at h3
      by_cases hj : j < b.length
      · simp only [h3, hj, and_self, if_true]
      · simp only [h3, hj, and_false, if_false]
        rw [List.getElem?_eq_none (by omega), List.getElem?_eq_none (by omega)]
    · rw [h3]
  rw [e]
  exact h gs
/-- A piece whose ways meet again in one of the states that up and tup say. -/
theorem AW.join {ι : Type} (scr : List Nat) (up : ι → List (Nat × AV)) (tscr : List Nat) (tup : ι → List (Nat × TK)) (J : ι → Prop)
    (h1 : AW P c (thenA (fun t' st' => ∃ k, J k ∧ Wk t' (upds (anys t scr) (up k)) ∧ Sk tscr 0 st' (upds st (tup k))) Q) t st)
    (h2 : ∀ k gs, J k → AW P d Q (upds (anys t scr) (up k)) (Go.Proofs.YtpkjlmaphhileaaDoor.offs gs (upds st (tup k)) tscr)) : AW P (.seq c d) Q t st :=
  AW.seq (h1.mono fun e t' st' h => by
    cases e with
    | normal => obtain ⟨k, hJ, hw, hs⟩ := h; exact AW.wk hw (hs.go fun gs => h2 k gs hJ)
    | _ => exact h)
end
end Go.Proofs.YtpkjlmaphhileaaDoor
