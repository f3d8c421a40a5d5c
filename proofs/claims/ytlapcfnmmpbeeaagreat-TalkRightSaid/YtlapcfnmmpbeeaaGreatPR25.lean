/- Texts of the proof of talkRight_holds, put together by a program: Jn PenA PenB. -/
import Derived.Lib.AppendStr
import Derived.Lib.ConvBytes
import Derived.Test.YtlapcfnmmpbeeaaGreatPR13
import Derived.Test.YtlapcfnmmpbeeaaGreatPR24
set_option linter.unusedSimpArgs false
set_option linter.unusedVariables false
namespace Go.Proofs.YtlapcfnmmpbeeaaGreat
open Go.RowKit
section
variable {P : Program} {c d : Code} {Q : APost} {t : List AV} {st : List TK}
theorem Sk.go {tscr : List Nat} {s' b : List TK} (hsk : Sk tscr 0 s' b) {cc : Code} {QQ : APost} {tt : List AV} (h : ∀ gs, AW P cc QQ tt (offs gs b tscr)) : AW P cc QQ tt s' := by
  obtain ⟨h1, h2⟩ := hsk.get
  let gs : Nat → Nat := fun j => ((s'[j]?).map TK.g).getD 0
  refine AW.offs tscr gs (fun j tk hj => by simp [gs, hj]) ?_
  have e : Go.Proofs.YtlapcfnmmpbeeaaGreat.offs gs s' tscr = Go.Proofs.YtlapcfnmmpbeeaaGreat.offs gs b tscr := by
    apply List.ext_getElem?
    intro j; rw [(offs_get gs tscr s' j).2, (offs_get gs tscr _ j).2, h1]
    rcases h2 j with h3 | h3
    · rw [Nat.zero_add] at h3
      by_cases hj : j < b.length
      · simp only [h3, hj, and_self, if_true]
      · simp only [h3, hj, and_false, if_false]
        rw [List.getElem?_eq_none (by omega), List.getElem?_eq_none (by omega)]
    · rw [h3]
  rw [e]
  exact h gs
theorem AW.join {ι : Type} (scr : List Nat) (up : ι → List (Nat × AV)) (tscr : List Nat) (tup : ι → List (Nat × TK)) (J : ι → Prop)
    (h1 : AW P c (thenA (fun t' st' => ∃ k, J k ∧ Wk t' (upds (anys t scr) (up k)) ∧ Sk tscr 0 st' (upds st (tup k))) Q) t st)
    (h2 : ∀ k gs, J k → AW P d Q (upds (anys t scr) (up k)) (Go.Proofs.YtlapcfnmmpbeeaaGreat.offs gs (upds st (tup k)) tscr)) : AW P (.seq c d) Q t st :=
  AW.seq (h1.mono fun e t' st' h => by
    cases e with
    | normal => obtain ⟨k, hJ, hw, hs⟩ := h; exact AW.wk hw (hs.go fun gs => h2 k gs hJ)
    | _ => exact h)
end
end Go.Proofs.YtlapcfnmmpbeeaaGreat
namespace Go.Proofs.YtlapcfnmmpbeeaaGreat
set_option maxRecDepth 100000
set_option maxRecDepth 100000
open Go.RowKit
theorem join_c (a b : List UInt8) (ha : a.length ≤ 1099511627776) (hb : b.length ≤ 1099511627776) : AC Tryz.prog 94 [.sl (byA a), .sl (byA b)] (fun r => r = .o 5 1 (byA (a ++ b))) := by
  have qa := byA_len a
  have qb := byA_len b
  refine AC.of' 16 3 Tryz.func94 rfl ?_; change AW _ _ _ _ [TK.mk 0 .off, TK.mk 0 .off, TK.mk 0 .off]; refine AW.seq (AW.region ?_); refine AL.ra ?_; refine AL.nil ?_; change AW _ _ _ _ _; refine AW.seq (AW.region ?_); refine AL.rm ?_; refine AL.r (rd_len_sl rfl el_52 rfl) ?_; refine AL.rm ?_; refine AL.r (rd_len_sl rfl el_52 rfl) ?_; refine AL.r (rd_arith_add rfl rfl rfl (IntWalk.i64_in _ (by omega))) ?_; refine AL.op rfl (AOpB.op (op_make0 0 rfl ap_52 rfl rfl (show _ = ((a.length + b.length : Nat) : Int) by omega) (by omega) (by omega) rfl ?_)); refine AL.n ?_; refine AL.ra ?_; refine AL.nil ?_; change AW _ _ _ _ _; refine AW.seq (AW.region ?_); (iterate 2 refine AL.rm ?_); refine AL.op rfl (op_append rfl ap_52 rfl rfl (src_s rfl) (by first | omega | (simp; omega) | simp) (by first | omega | (simp; omega) | simp) ?_); refine AL.n ?_; refine AL.ra ?_; refine AL.nil ?_
  change AW _ _ _ _ _; refine AW.seq (AW.region ?_); (iterate 2 refine AL.rm ?_); refine AL.op rfl (op_append rfl ap_52 rfl rfl (src_s rfl) (by first | omega | (simp; omega) | simp) (by first | omega | (simp; omega) | simp) ?_); refine AL.n ?_; refine AL.ra ?_; refine AL.nil ?_; change AW _ _ _ _ _; refine AW.ret ?_; change ResA _ _ _ _ _; refine res1o rfl (ResV.tmp rfl) rfl ?_; rw [List.nil_append, byA_app]
theorem putN_len (f z : Int) : (putN f z).length ≤ 10 := by
  unfold putN; split
  · rw [leB_len]; omega
  · split
    · exact vary_len 9 _
    · simp
def okF (f : Int) : Bool := f == 1 || f == 2
theorem okF_iff {f : Int} : okF f = true ↔ f = 1 ∨ f = 2 := by unfold okF; simp
theorem cput_ns (f z : Int) (hf : i64R f) (hz : i64R z) : AC Tryz.prog 93 [.sl (byA []), .sc (.int .i64 f), .sc (.int .i64 z)] (fun r => r = .s (.sl (byA (putN f z)))) := by
  have := cput_s [] f z hf hz (by simp)
  rwa [List.nil_append] at this
def textP (f : Int) (s : Bytes) : List UInt8 := if okF f then putN f s.length ++ s else []
def tagP (f : Int) (t : TagD) : List UInt8 := putN f t.rep ++ putN f t.n
def refP (f : Int) (r : RefD) : List UInt8 := putN f r.scope ++ textP f r.group ++ textP f r.name
theorem textP_len (f : Int) (s : Bytes) : (textP f s).length ≤ 10 + s.length := by
  have := putN_len f s.length
  unfold textP
  split
  · rw [List.length_append]; omega
  · simp
section
variable (b : List UInt8) (f : Int) (hb : b.length ≤ 549755813888) (hf : i64R f)
include hb hf
theorem pnum_c (z : Int) (hz : i64R z) : AC Tryz.prog 44 [.sl (byA b), .sc (.int .i64 f), .sc (.int .i64 z)] (fun r => r = .s (.sl (byA (b ++ putN f z)))) := by
  refine AC.of' 8 0 Tryz.func44 rfl ?_; change AW _ _ _ _ []; refine AW.seq (AW.region ?_); refine AL.ra ?_; refine AL.nil ?_; change AW _ _ _ _ _; refine AW.seq (AW.region ?_); (iterate 3 refine AL.rm ?_); refine AL.op rfl (AOpB.op (op_call (cput_s b f z hf hz (by omega)) rfl (by kernel_rfl) rfl (none) ?_)); rintro r rfl; refine AL.n ?_; refine AL.ra ?_; refine AL.nil ?_; change AW _ _ _ _ _; refine AW.ret ?_; change ResA _ _ _ _ _; refine res1 rfl (ResV.tmp rfl) rfl ?_; rfl
end
end Go.Proofs.YtlapcfnmmpbeeaaGreat
namespace Go.Proofs.YtlapcfnmmpbeeaaGreat
set_option maxRecDepth 100000
set_option maxRecDepth 100000
open Go.RowKit
structure RdrD where
  b : List UInt8
  f : Int
  at_ : Int
  bad : Bool
section
variable {P : Program} {o : Oper} {t : List AV} {st : List TK} {ops : Array Oper} {l : List Oper} {fuel : Nat} {listed : Array Bool}
end
structure RdrD.Ok (r : RdrD) : Prop where
  len : r.b.length ≤ 1099511627776
  lo : 0 ≤ r.at_
  hi : r.at_ ≤ r.b.length
def badP (r : RdrD) : Bool := r.bad || !okF r.f
def spoilP (r : RdrD) : RdrD := { r with bad := true }
def leftP (r : RdrD) : Int := if badP r then 0 else r.b.length - r.at_
def numP (r : RdrD) : Int × RdrD := if badP r then (0, r) else if (getN r.b r.at_ r.f).2.2 = 0 then ((getN r.b r.at_ r.f).1, { r with at_ := (getN r.b r.at_ r.f).2.1 }) else (0, spoilP r)
def countP (r : RdrD) (most : Int) : Int × RdrD := if (numP r).1 < 0 ∨ most < (numP r).1 then (0, spoilP (numP r).2) else numP r
def textR (r : RdrD) (most : Int) : RdrD := if (numP r).1 < 0 ∨ most < (numP r).1 ∨ leftP (numP r).2 < (numP r).1 then spoilP (numP r).2 else (numP r).2
def rtextP (r : RdrD) (most : Int) : Bytes × RdrD := if badP (textR r most) then ([], textR r most) else (((textR r most).b.take ((textR r most).at_ + (numP r).1).toNat).drop (textR r most).at_.toNat, { textR r most with at_ := (textR r most).at_ + (numP r).1 })
def rtagP (r : RdrD) : TagD × RdrD := if badP (numP (numP r).2).2 then (⟨0, 0⟩, (numP (numP r).2).2) else (⟨(numP r).1, (numP (numP r).2).1⟩, (numP (numP r).2).2)
def rrefP (r : RdrD) : RefD × RdrD := if badP (rtextP (rtextP (numP r).2 12).2 12).2 then (⟨0, [], []⟩, (rtextP (rtextP (numP r).2 12).2 12).2) else (⟨(numP r).1, (rtextP (numP r).2 12).1, (rtextP (rtextP (numP r).2 12).2 12).1⟩, (rtextP (rtextP (numP r).2 12).2 12).2)
theorem getN_ok {l : List UInt8} {at_ f : Int} (h : (getN l at_ f).2.2 = 0) : 0 ≤ at_ ∧ at_ < (getN l at_ f).2.1 ∧ (getN l at_ f).2.1 ≤ l.length ∧ i64R (getN l at_ f).1 := by
  unfold getN at h ⊢
  split at h
  · exact absurd h (by decide)
  · rename_i h0
    have h1 : 0 ≤ at_ ∧ at_ ≤ l.length := by omega
    rw [if_neg h0]
    split at h
    · rename_i h2
      rw [if_pos h2]
      unfold fixG at h ⊢
      split at h
      · exact absurd h (by decide)
      · rename_i h3
        rw [if_neg h3]
        rw [List.length_drop] at h3
        have hb := i64Z_bd (u := num ((l.drop at_.toNat).take 8)) (by
          have := num_lt ((l.drop at_.toNat).take 8)
          rw [List.length_take, List.length_drop, Nat.min_eq_left (by omega)] at this
          exact this)
        exact ⟨h1.1, by simp only []; omega, by simp only []; omega, hb⟩
    · rename_i h2
      rw [if_neg h2]
      unfold varG at h ⊢
      cases hg : gv (l.drop at_.toNat) 0 0 with
      | none => rw [hg] at h; exact absurd (show (8 : Int) = 0 from h) (by decide)
      | some p =>
        obtain ⟨u, s⟩ := p
        obtain ⟨g1, g2, r', g3⟩ := gv0_got hg
        have hp := vary_pos 9 u
        have hl : (l.drop at_.toNat).length = (vary 9 u).length + r'.length := by rw [g3, List.length_append]
        rw [List.length_drop] at hl
        exact ⟨h1.1, by simp only []; omega, by simp only []; omega, backZ_bd g1⟩
theorem numP_ok {r : RdrD} (h : r.Ok) : (numP r).2.Ok ∧ (numP r).2.b = r.b ∧ (numP r).2.f = r.f ∧ i64R (numP r).1 := by
  unfold numP
  split
  · exact ⟨h, rfl, rfl, by unfold i64R; simp⟩
  · split
    · rename_i h2
      obtain ⟨a, b, c, d⟩ := getN_ok h2
      exact ⟨⟨h.len, by simp only []; omega, c⟩, rfl, rfl, d⟩
    · exact ⟨⟨h.len, h.lo, h.hi⟩, rfl, rfl, by unfold i64R; simp⟩
section
variable (g : Nat) (r : RdrD)
end
theorem textR_ok {r : RdrD} (h : r.Ok) (most : Int) : (textR r most).Ok ∧ (textR r most).b = r.b ∧ (textR r most).f = r.f ∧ (badP (textR r most) = false → 0 ≤ (numP r).1 ∧ (numP r).1 ≤ most ∧ (textR r most).at_ + (numP r).1 ≤ r.b.length) := by
  obtain ⟨a, b, c, _⟩ := numP_ok h
  unfold textR
  split
  · exact ⟨⟨a.len, a.lo, a.hi⟩, b, c, fun h => by simp [badP, spoilP] at h⟩
  · rename_i h2
    refine ⟨a, b, c, fun h3 => ?_⟩; rw [leftP, if_neg (by rw [h3]; decide), b] at h2; omega
section
variable (g : Nat) (r : RdrD)
end
end Go.Proofs.YtlapcfnmmpbeeaaGreat
