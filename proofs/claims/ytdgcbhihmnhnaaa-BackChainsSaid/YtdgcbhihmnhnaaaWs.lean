/- An own slice is settled ahead of a piece of code. No conditions. -/
import Derived.Test.YtdgcbhihmnhnaaaSh
namespace Go.Proofs.Ytdgcbhihmnhnaaa
set_option linter.unusedSimpArgs false
set_option linter.unusedVariables false
open Go.RowKit

theorem AW.settle {P : Program} {c : Code} {Q : APost} {t : List AV} {st : List TK} (d : Nat) {k g : Nat} {tc : TC} {xs : List (List AV)} (hd : t[d]? = some (.ow k g)) (hk : st[k]? = some ⟨g, tc⟩) (hc : cont tc = some xs) (h : AW P c Q (t.set d (.sl xs)) (st.set k ⟨g, .off⟩)) : AW P c Q t st := fun F ρ w0 w a hs hm => by
  obtain ⟨h1, h2, h3⟩ := hs.settle hk hc
  refine h F ρ w0 w a h1 ?_
  have hm' := hm.mv h2
  refine ⟨hm'.defers, by simp [hm'.size], fun i v x hv hx => ?_⟩; rw [List.getElem?_set] at hx
  split at hx
  · rename_i e
    subst e
    split at hx
    · injection hx with hx
      subst hx
      exact h3 v (hm.rep _ v _ hv hd)
    · cases hx
  · exact hm'.rep i v x hv hx
end Go.Proofs.Ytdgcbhihmnhnaaa
