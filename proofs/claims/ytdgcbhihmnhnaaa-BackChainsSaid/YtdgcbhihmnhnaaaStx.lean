/- A store into the one box of a drawn region, in short. No conditions. -/
import Derived.Test.YtdgcbhihmnhnaaaMb
namespace Go.Proofs.Ytdgcbhihmnhnaaa
set_option linter.unusedSimpArgs false
set_option linter.unusedVariables false
open Go.RowKit

theorem ADX.stor {kx : Nat} {P : Program} {l : List Oper} {K : List AV → List TK → Prop} {o : Oper} {x y : Operand} {z : AV} {zs : List AV} {t : List AV} {st : List TK} {fuel : Nat} {listed : Array Bool} {ty bt : TypeId} {g off : Nat} {cs : List AV} (i : Nat) (hi : l[i]? = some o) (hr : Region.ready .any l.toArray listed = [i]) (hw : WantA l.toArray o t true)
    (ho : o.op = .store ty x y) (hx : evA t x = .bx kx g off) (hk : st[kx]? = some ⟨g, .box bt cs⟩) (hy : evA t y = z) (hz : z.cells? = some zs) (hT : szT P ty = some zs.length)
    (h : ADX kx P l K fuel (listed.setIfInBounds i true) (putA t o.dst (.sc undef)) (st.set kx ⟨g, .box bt (splA cs off zs)⟩)) (hle : off + zs.length ≤ cs.length := by exact Nat.le_of_ble_eq_true rfl) (hl : liveA st z = true := by rfl) : ADX kx P l K (fuel + 1) listed t st := ADX.store i hi hr hw ho hx hk hy hz hl hT hle h
end Go.Proofs.Ytdgcbhihmnhnaaa
