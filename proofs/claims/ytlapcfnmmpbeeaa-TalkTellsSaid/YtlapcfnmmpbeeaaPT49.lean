/- A part of a proof. -/
import Derived.Test.YtlapcfnmmpbeeaaPT43
set_option linter.unusedSimpArgs false
set_option linter.unusedVariables false
namespace Go.Proofs.Ytlapcfnmmpbeeaa
set_option maxRecDepth 100000
set_option maxRecDepth 100000
open Go.RowKit
def nAw : NoteD := ⟨4, 3, 0, z6, [], [], []⟩
theorem nAw_wf : nAw.Wf := ⟨⟨by decide, by decide⟩, ⟨by decide, by decide⟩, ⟨by decide, by decide⟩, ⟨⟨by decide, by decide⟩, ⟨by decide, by decide⟩, ⟨by decide, by decide⟩, ⟨by decide, by decide⟩, ⟨by decide, by decide⟩, ⟨by decide, by decide⟩⟩, fun t h => by simp [nAw] at h, fun t h => by simp [nAw] at h, fun t h => by simp [nAw] at h⟩
theorem bAw : bytesN 2 nAw = [2, 8, 6, 0, 0, 0, 0, 0, 0] := by kernel_rfl
def pAw : List UInt8 := frameN byteN (bytesN 2 nAw)
theorem pAw_drop : pAw.drop 8 = [2, 8, 6, 0, 0, 0, 0, 0, 0] := by
  unfold pAw frameN
  rw [← List.append_assoc, List.drop_append_of_le_length (by simp [leB_len]), List.drop_of_length_le (by simp [leB_len]), bAw]; rfl
theorem pAw_len : pAw.length = 17 := by
  unfold pAw frameN
  rw [bAw]
  simp [leB_len]
theorem pack_aw : AC Try.prog 7 [.sc (tabV byteN), .sc (.int .i64 2), nAw.av] (fun r => r = .ot 5 1 (byA pAw) [AI 0]) := pack_4 byteN (fun _ h => byteN_lt h) 2 ⟨by decide, by decide⟩ rfl 3 0 z6 [] [] [] nAw_wf (by kernel_rfl)
theorem awake30 : AC Try.prog 4 [] (fun r => r = .s (AB true)) := by
  have hl := pAw_len
  refine AC.of' 22 0 Try.func4 rfl ?_; change AW _ _ _ _ []; refine AW.g (AL.ra ?_); refine AL.nil (AW.g (AL.cl (made_c) ?_)); refine AL.n ?_; refine AL.r (qB pl_28 ze_28) ?_; refine AL.cl (pack_aw) ?_; refine AL.n ?_; refine AL.rm ?_; refine AL.r qe ?_; refine AL.r qe ?_; (iterate 2 refine AL.ra ?_); refine AL.nil (AW.g (AL.rm ?_)); refine AL.r qb ?_; refine AL.rm ?_; refine AL.fk (d := 11) rfl (fun h11 => ?_) (fun h11 => ?_)
  ·refine AL.n ?_; refine AL.ro (rd_move rfl rfl) ?_; refine AL.ro (lN el_35) ?_; refine AL.ro qb ?_; refine AL.r qt ?_; refine AL.rm ?_; refine AL.fk (d := 16) rfl (fun h16 => ?_) (fun h16 => ?_)
   ·refine AL.n ?_; refine AL.ro (rd_move rfl rfl) ?_; refine AL.ro (rd_by_from rfl el_35 rfl rfl (m := 8) rfl (by omega)) ?_; refine AL.ro (rd_b2s rfl (by kernel_rfl) (src_s rfl)) ?_; refine AL.ro (rd_seq rfl rfl rfl) ?_; refine AL.r qt ?_; refine AL.ra ?_; refine AL.nil (AW.ret (r1t ?_))
    (refine sb ?_; rw [pAw_drop]; decide)
   (exfalso; omega)
  exact (h11 trivial).elim
end Go.Proofs.Ytlapcfnmmpbeeaa
