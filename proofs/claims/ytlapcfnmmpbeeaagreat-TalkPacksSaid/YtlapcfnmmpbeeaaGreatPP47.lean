/- Texts of the proof of talkPacks_holds, put together by a program: Cut Raw TxD TkW. -/
import Derived.Test.YtlapcfnmmpbeeaaGreatPP44
import Derived.Test.YtlapcfnmmpbeeaaGreatPP46
set_option linter.unusedSimpArgs false
set_option linter.unusedVariables false
namespace Go.Proofs.YtlapcfnmmpbeeaaGreat
open Go.RowKit
theorem ADB.cut {P : Program} {l : List Oper} {K : List AV → List TK → Prop} {fuel fuel2 : Nat} {listed listed2 : Array Bool} {t t2 : List AV} {st st2 : List TK} (h : ADB P l K fuel2 listed2 t2 st2 → ADB P l K fuel listed t st) (key : ADB P l K fuel2 listed2 t2 st2) : ADB P l K fuel listed t st := h key
theorem ADB.use {P : Program} {l : List Oper} {K : List AV → List TK → Prop} {fuel fuel2 : Nat} {listed listed2 : Array Bool} {t t2 : List AV} {st st2 : List TK} (key : ADB P l K fuel2 listed2 t2 st2) (hf : fuel = fuel2 := by rfl) (hl : listed = listed2 := by kernel_rfl) (ht : t = t2 := by rfl) (hs : st = st2 := by rfl) : ADB P l K fuel listed t st := by
  subst hf hl ht hs
  exact key
set_option maxRecDepth 100000
theorem resO_setN {st : List TK} {n k g el sz : Nat} {xs : List (List AV)} (hn : n ≤ k) (hk : st[k]? = some ⟨g, owN el sz xs⟩) : resO1 n st (.ow k g) = some (.sl xs) := by
  cases xs <;> simp [resO1, nz, resO0, Nat.not_lt.2 hn, set0, hk, owN]
abbrev RM := Nat → Option (TypeId × Array Value)
section
variable {P : Program} {o : Oper} {ops : Array Oper} {K : List AV → List TK → Prop} {KK : AV → List TK → Prop} {l : List Oper} {t : List AV} {st : List TK} {x y : Operand} {G q b off : Nat} {M : RM} {T : TypeId} {vs : Array Value} {u : Value} {F : Nat → Prop} {ρ : Loc} {w0 : Bs} {w : World}
end
set_option maxRecDepth 100000
def nAw : NoteD := ⟨4, 3, 0, z6, [], [], []⟩
theorem nAw_wf : nAw.Wf := ⟨⟨by decide, by decide⟩, ⟨by decide, by decide⟩, ⟨by decide, by decide⟩, ⟨⟨by decide, by decide⟩, ⟨by decide, by decide⟩, ⟨by decide, by decide⟩, ⟨by decide, by decide⟩, ⟨by decide, by decide⟩, ⟨by decide, by decide⟩⟩, fun t h => by simp [nAw] at h, fun t h => by simp [nAw] at h, fun t h => by simp [nAw] at h⟩
theorem bAw : bytesN 2 nAw = [2, 8, 6, 0, 0, 0, 0, 0, 0] := by kernel_rfl
def pAw : List UInt8 := frameN byteN (bytesN 2 nAw)
theorem pAw_drop : pAw.drop 8 = [2, 8, 6, 0, 0, 0, 0, 0, 0] := by
  unfold pAw frameN
  rw [← List.append_assoc, List.drop_append_of_le_length (by simp [leB_len]), List.drop_of_length_le (by simp [leB_len]), bAw]; rfl
theorem pAw_len : pAw.length = 17 := by
  unfold pAw frameN
  rw [bAw]
  simp [leB_len]
theorem pack_aw : AC Tryz.prog 13 [.sc (tabV byteN), .sc (.int .i64 2), nAw.av] (fun r => r = .ot 5 1 (byA pAw) [AI 0]) := pack_4 byteN (fun _ h => byteN_lt h) 2 ⟨by decide, by decide⟩ rfl 3 0 z6 [] [] [] nAw_wf (by kernel_rfl)
theorem awake30 : AC Tryz.prog 6 [] (fun r => r = .s (AB true)) := by
  have hl := pAw_len
  refine AC.of' 22 0 Tryz.func6 rfl ?_; change AW _ _ _ _ []; refine AW.seq (AW.region (AL.ra ?_)); refine AL.nil (AW.seq (AW.region (AL.op rfl (AOpB.op (op_call (made_c) rfl (by kernel_rfl) rfl (none) ?_))))); rintro r rfl; refine AL.n ?_; refine AL.r (rd_build rfl pl_28 ze_28 rfl rfl) ?_; refine AL.op rfl (AOpB.op (op_call (pack_aw) rfl (by kernel_rfl) rfl (none) ?_)); rintro r rfl; refine AL.n ?_; refine AL.rm ?_; refine AL.r (rd_extract rfl rfl rfl) ?_; refine AL.r (rd_extract rfl rfl rfl) ?_; (iterate 2 refine AL.ra ?_); refine AL.nil (AW.seq (AW.region (AL.rm ?_))); refine AL.r qb ?_; refine AL.rm ?_; refine AL.fk (d := 11) rfl (fun h11 => ?_) (fun h11 => ?_)
  ·refine AL.n ?_; refine AL.ro (rd_move rfl rfl) ?_; refine AL.ro (rd_len_sl rfl el_52 rfl) ?_; refine AL.ro qb ?_; refine AL.r qt ?_; refine AL.rm ?_; refine AL.fk (d := 16) rfl (fun h16 => ?_) (fun h16 => ?_)
   ·refine AL.n ?_; refine AL.ro (rd_move rfl rfl) ?_; refine AL.ro (rd_by_from rfl el_52 rfl rfl (m := 8) rfl (by omega)) ?_; refine AL.ro (rd_b2s rfl (by kernel_rfl) (src_s rfl)) ?_; refine AL.ro (rd_seq rfl rfl rfl) ?_; refine AL.r qt ?_; refine AL.ra ?_; refine AL.nil (AW.ret (r1t ?_))
    (refine congrArg (fun b => RS.s (AB b)) ?_; rw [pAw_drop]; decide)
   ·(exfalso; omega)
  ·exact (h11 trivial).elim
set_option maxRecDepth 100000
section
variable {P : Program} {o : Oper} {t : List AV} {st : List TK} {x y : Operand} {b off : Nat}
end
theorem heavyN_read {n : NoteD} (h : heavyN n = false) : n.tags.length ≤ 100 ∧ n.edges.length ≤ 12 ∧ n.ops.length ≤ 12 ∧ (∀ e ∈ n.edges, e.lens.Light) ∧ ∀ o ∈ n.ops, o.Light := by
  unfold heavyN at h
  simp only [Bool.or_eq_false_iff, decide_eq_false_iff_not] at h
  have he := manyB_f h.1.2; have ho := manyB_f h.2
  exact ⟨by omega, by omega, by omega, fun e hm => heavyL_light (he.2 e hm), fun o hm => heavyO_light (ho.2 o hm)⟩
theorem Light.small {x : LensD} (h : x.Light) : x.Small := ⟨by have := h.field.cases; omega, by have := h.forth.1; omega, by have := h.back.1; omega⟩
theorem rheavy_t (n : NoteD) (h : heavyN n = true) : AC Tryz.prog 7 [n.av] (fun r => r = .s (AB true)) := (rheavyn_c n).mono fun r hr => by rw [hr, h]
theorem rheavy_f (n : NoteD) (h : heavyN n = false) : AC Tryz.prog 7 [n.av] (fun r => r = .s (AB false)) := (rheavyn_c n).mono fun r hr => by rw [hr, h]
theorem rnsame_t (n : NoteD) (hs : ∀ e ∈ n.edges, e.lens.Small) : AC Tryz.prog 11 [n.av, n.av] (fun r => r = .s (AB true)) := (rnsame_c n n hs).mono fun r hr => by rw [hr, decide_eq_true rfl]
end Go.Proofs.YtlapcfnmmpbeeaaGreat
