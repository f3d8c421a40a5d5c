/- A part of a proof. -/
import Derived.Laws.BitsAllLaws
import Derived.Laws.StructEq
import Derived.Test.YtlapcfnmmpbeeaaGreatProg
import Derived.Test.YtlapcfnmmpbeeaaGreatPO04
import Derived.Test.YtlapcfnmmpbeeaaGreatPO07
set_option linter.unusedSimpArgs false
set_option linter.unusedVariables false
namespace Go.Proofs.YtlapcfnmmpbeeaaGreat
theorem ag_2 : agN Tryz.prog 2 = some none := by kernel_rfl
theorem sz_2 : szT Tryz.prog 2 = some 1 := by kernel_rfl
theorem ag_3 : agN Tryz.prog 3 = some none := by kernel_rfl
theorem ik_3 : intK Tryz.prog 3 = some .i64 := by kernel_rfl
theorem sz_3 : szT Tryz.prog 3 = some 1 := by kernel_rfl
theorem iss_3 : (Tryz.prog.underlying 3).isSome = true := by kernel_rfl
theorem ag_4 : agN Tryz.prog 4 = some none := by kernel_rfl
theorem bo_4 : isBo Tryz.prog 4 = true := by kernel_rfl
theorem sz_4 : szT Tryz.prog 4 = some 1 := by kernel_rfl
theorem ag_5 : agN Tryz.prog 5 = some none := by kernel_rfl
theorem ik_5 : intK Tryz.prog 5 = some .u8 := by kernel_rfl
theorem ze_5 : jCL Tryz.prog 5 = some [.int .u8 0] := by kernel_rfl
theorem jCN : (Tryz.prog.underlying 5).isSome = true := by kernel_rfl
theorem ag_9 : agN Tryz.prog 9 = some none := by kernel_rfl
theorem jDb : jH6 Tryz.prog 9 = true := by kernel_rfl
theorem sz_9 : szT Tryz.prog 9 = some 1 := by kernel_rfl
theorem ze_9 : jCL Tryz.prog 9 = some [sv []] := by kernel_rfl
theorem jDW : agN Tryz.prog 23 = some (some 6) := by kernel_rfl
theorem jBS : arT Tryz.prog 23 = some (6, 3, 1) := by kernel_rfl
theorem jGN : szT Tryz.prog 23 = some 6 := by kernel_rfl
theorem jFf : jCL Tryz.prog 23 = some [.int .i64 0, .int .i64 0, .int .i64 0, .int .i64 0, .int .i64 0, .int .i64 0] := by kernel_rfl
theorem jCs : agN Tryz.prog 24 = some none := by kernel_rfl
theorem jB5 : elT Tryz.prog 24 = some (34, 2) := by kernel_rfl
theorem jGl : apI Tryz.prog 24 = some (34, 2, 16) := by kernel_rfl
theorem jIe : szT Tryz.prog 24 = some 1 := by kernel_rfl
theorem jFb : agN Tryz.prog 25 = some none := by kernel_rfl
theorem jDn : elT Tryz.prog 25 = some (44, 20) := by kernel_rfl
theorem ap_25 : apI Tryz.prog 25 = some (44, 20, 264) := by kernel_rfl
theorem sz_25 : szT Tryz.prog 25 = some 1 := by kernel_rfl
theorem jFe : agN Tryz.prog 26 = some none := by kernel_rfl
theorem jDp : elT Tryz.prog 26 = some (48, 15) := by kernel_rfl
theorem ap_26 : apI Tryz.prog 26 = some (48, 15, 176) := by kernel_rfl
theorem sz_26 : szT Tryz.prog 26 = some 1 := by kernel_rfl
theorem jAo : fOff Tryz.prog 28 0 = some 0 := by kernel_rfl
theorem jBP : fOff Tryz.prog 28 1 = some 1 := by kernel_rfl
theorem jCJ : fOff Tryz.prog 28 2 = some 2 := by kernel_rfl
theorem jCf : fOff Tryz.prog 28 3 = some 3 := by kernel_rfl
theorem jCw : fOff Tryz.prog 28 4 = some 9 := by kernel_rfl
theorem jCg : fOff Tryz.prog 28 5 = some 10 := by kernel_rfl
theorem jCe : fOff Tryz.prog 28 6 = some 11 := by kernel_rfl
theorem jAB : agN Tryz.prog 28 = some (some 12) := by kernel_rfl
theorem jCh : plI Tryz.prog 28 = some [(0, 1), (1, 1), (2, 1), (3, 6), (9, 1), (10, 1), (11, 1)] := by kernel_rfl
theorem jAR : szT Tryz.prog 28 = some 12 := by kernel_rfl
theorem jA2 : jCL Tryz.prog 28 = some [.int .i64 0, .int .i64 0, .int .i64 0, .int .i64 0, .int .i64 0, .int .i64 0, .int .i64 0, .int .i64 0, .int .i64 0, .slice none 0 0, .slice none 0 0, .slice none 0 0] := by kernel_rfl
theorem jD9 : fOff Tryz.prog 34 0 = some 0 := by kernel_rfl
theorem jEH : fOff Tryz.prog 34 1 = some 1 := by kernel_rfl
theorem jAN : agN Tryz.prog 34 = some (some 2) := by kernel_rfl
theorem jIv : plI Tryz.prog 34 = some [(0, 1), (1, 1)] := by kernel_rfl
theorem jF8 : szT Tryz.prog 34 = some 2 := by kernel_rfl
theorem jDZ : jCL Tryz.prog 34 = some [.int .i64 0, .int .i64 0] := by kernel_rfl
theorem jB7 : fOff Tryz.prog 36 0 = some 0 := by kernel_rfl
theorem jC1 : fOff Tryz.prog 36 1 = some 1 := by kernel_rfl
theorem jFo : fOff Tryz.prog 36 2 = some 2 := by kernel_rfl
theorem jBa : agN Tryz.prog 36 = some (some 3) := by kernel_rfl
theorem jLw : plI Tryz.prog 36 = some [(0, 1), (1, 1), (2, 1)] := by kernel_rfl
theorem jBw : szT Tryz.prog 36 = some 3 := by kernel_rfl
theorem jIY : jCL Tryz.prog 36 = some [.int .i64 0, sv [], sv []] := by kernel_rfl
theorem jDY : agN Tryz.prog 37 = some none := by kernel_rfl
theorem jCz : elT Tryz.prog 37 = some (9, 1) := by kernel_rfl
theorem jGZ : apI Tryz.prog 37 = some (9, 1, 16) := by kernel_rfl
theorem sz_37 : szT Tryz.prog 37 = some 1 := by kernel_rfl
theorem jFA : fOff Tryz.prog 39 0 = some 0 := by kernel_rfl
theorem jDq : fOff Tryz.prog 39 1 = some 3 := by kernel_rfl
theorem jC3 : fOff Tryz.prog 39 2 = some 4 := by kernel_rfl
theorem jBJ : fOff Tryz.prog 39 3 = some 5 := by kernel_rfl
theorem jCX : fOff Tryz.prog 39 4 = some 6 := by kernel_rfl
theorem jCq : agN Tryz.prog 39 = some (some 7) := by kernel_rfl
theorem jG6 : plI Tryz.prog 39 = some [(0, 3), (3, 1), (4, 1), (5, 1), (6, 1)] := by kernel_rfl
theorem jDA : szT Tryz.prog 39 = some 7 := by kernel_rfl
theorem jFg : jCL Tryz.prog 39 = some [.int .i64 0, sv [], sv [], .int .i64 0, sv [], .slice none 0 0, .int .i64 0] := by kernel_rfl
theorem jBG : agN Tryz.prog 40 = some none := by kernel_rfl
theorem jCu : elT Tryz.prog 40 = some (46, 2) := by kernel_rfl
theorem jMn : apI Tryz.prog 40 = some (46, 2, 32) := by kernel_rfl
theorem jCk : szT Tryz.prog 40 = some 1 := by kernel_rfl
theorem jBf : fOff Tryz.prog 42 0 = some 0 := by kernel_rfl
theorem jAh : fOff Tryz.prog 42 1 = some 1 := by kernel_rfl
theorem jAt : fOff Tryz.prog 42 2 = some 4 := by kernel_rfl
theorem jAg : fOff Tryz.prog 42 3 = some 5 := by kernel_rfl
theorem jBm : fOff Tryz.prog 42 4 = some 6 := by kernel_rfl
theorem jB6 : fOff Tryz.prog 42 5 = some 7 := by kernel_rfl
theorem jAS : fOff Tryz.prog 42 6 = some 14 := by kernel_rfl
theorem jAT : fOff Tryz.prog 42 7 = some 15 := by kernel_rfl
theorem jAn : agN Tryz.prog 42 = some (some 16) := by kernel_rfl
theorem jBT : plI Tryz.prog 42 = some [(0, 1), (1, 3), (4, 1), (5, 1), (6, 1), (7, 7), (14, 1), (15, 1)] := by kernel_rfl
theorem jAL : szT Tryz.prog 42 = some 16 := by kernel_rfl
theorem jBx : jCL Tryz.prog 42 = some [.int .i64 0, .int .i64 0, sv [], sv [], sv [], sv [], .int .i64 0, .int .i64 0, sv [], sv [], .int .i64 0, sv [], .slice none 0 0, .int .i64 0, .slice none 0 0, .slice none 0 0] := by kernel_rfl
theorem jFp : fOff Tryz.prog 44 0 = some 0 := by kernel_rfl
theorem jEn : fOff Tryz.prog 44 1 = some 2 := by kernel_rfl
theorem jDu : fOff Tryz.prog 44 2 = some 4 := by kernel_rfl
theorem jDJ : agN Tryz.prog 44 = some (some 20) := by kernel_rfl
theorem jCO : plI Tryz.prog 44 = some [(0, 2), (2, 2), (4, 16)] := by kernel_rfl
theorem jFJ : szT Tryz.prog 44 = some 20 := by kernel_rfl
theorem jBv : jCL Tryz.prog 44 = some [.int .i64 0, .int .i64 0, .int .i64 0, .int .i64 0, .int .i64 0, .int .i64 0, sv [], sv [], sv [], sv [], .int .i64 0, .int .i64 0, sv [], sv [], .int .i64 0, sv [], .slice none 0 0, .int .i64 0, .slice none 0 0, .slice none 0 0] := by kernel_rfl
theorem jFC : fOff Tryz.prog 46 0 = some 0 := by kernel_rfl
theorem jIj : fOff Tryz.prog 46 1 = some 1 := by kernel_rfl
theorem jJW : agN Tryz.prog 46 = some (some 2) := by kernel_rfl
theorem pl_46 : plI Tryz.prog 46 = some [(0, 1), (1, 1)] := by kernel_rfl
theorem sz_46 : szT Tryz.prog 46 = some 2 := by kernel_rfl
theorem jIV : jCL Tryz.prog 46 = some [sv [], sv []] := by kernel_rfl
theorem jEt : fOff Tryz.prog 48 0 = some 0 := by kernel_rfl
theorem jEp : fOff Tryz.prog 48 1 = some 2 := by kernel_rfl
theorem jDL : fOff Tryz.prog 48 2 = some 4 := by kernel_rfl
theorem jEE : fOff Tryz.prog 48 3 = some 5 := by kernel_rfl
theorem jCy : fOff Tryz.prog 48 4 = some 6 := by kernel_rfl
theorem jBu : fOff Tryz.prog 48 5 = some 7 := by kernel_rfl
theorem jBR : fOff Tryz.prog 48 6 = some 8 := by kernel_rfl
theorem jDe : fOff Tryz.prog 48 7 = some 11 := by kernel_rfl
theorem jDN : fOff Tryz.prog 48 8 = some 12 := by kernel_rfl
theorem jDQ : fOff Tryz.prog 48 9 = some 13 := by kernel_rfl
theorem jBh : fOff Tryz.prog 48 10 = some 14 := by kernel_rfl
theorem jAZ : agN Tryz.prog 48 = some (some 15) := by kernel_rfl
theorem jHZ : plI Tryz.prog 48 = some [(0, 2), (2, 2), (4, 1), (5, 1), (6, 1), (7, 1), (8, 3), (11, 1), (12, 1), (13, 1), (14, 1)] := by kernel_rfl
theorem jCc : szT Tryz.prog 48 = some 15 := by kernel_rfl
theorem jDs : jCL Tryz.prog 48 = some [.int .i64 0, .int .i64 0, .int .i64 0, .int .i64 0, .int .i64 0, sv [], .int .i64 0, sv [], .int .i64 0, sv [], sv [], .int .i64 0, .bool false, sv [], .slice none 0 0] := by kernel_rfl
theorem ag_49 : agN Tryz.prog 49 = some none := by kernel_rfl
theorem jIO : intK Tryz.prog 49 = some .u32 := by kernel_rfl
theorem sz_49 : szT Tryz.prog 49 = some 1 := by kernel_rfl
theorem jEL : (Tryz.prog.underlying 49).isSome = true := by kernel_rfl
theorem jCU : agN Tryz.prog 51 = some (some 256) := by kernel_rfl
theorem ar_51 : arT Tryz.prog 51 = some (256, 49, 1) := by kernel_rfl
theorem jJp : agN Tryz.prog 52 = some none := by kernel_rfl
theorem jAC : elT Tryz.prog 52 = some (5, 1) := by kernel_rfl
theorem jBC : apI Tryz.prog 52 = some (5, 1, 1) := by kernel_rfl
theorem pt_95 : isPt Tryz.prog 95 = true := by kernel_rfl
theorem jCo : fOff Tryz.prog 133 0 = some 0 := by kernel_rfl
theorem jA8 : fOff Tryz.prog 133 1 = some 1 := by kernel_rfl
theorem jCF : fOff Tryz.prog 133 2 = some 2 := by kernel_rfl
theorem jFN : fOff Tryz.prog 133 3 = some 3 := by kernel_rfl
theorem jC9 : fOff Tryz.prog 133 4 = some 4 := by kernel_rfl
theorem jD5 : fOff Tryz.prog 133 5 = some 6 := by kernel_rfl
theorem jCH : fOff Tryz.prog 133 6 = some 12 := by kernel_rfl
theorem jCG : fOff Tryz.prog 133 7 = some 15 := by kernel_rfl
theorem jAE : agN Tryz.prog 133 = some (some 16) := by kernel_rfl
theorem jAO : plI Tryz.prog 133 = some [(0, 1), (1, 1), (2, 1), (3, 1), (4, 2), (6, 6), (12, 3), (15, 1)] := by kernel_rfl
theorem jAA : szT Tryz.prog 133 = some 16 := by kernel_rfl
theorem jAq : jCL Tryz.prog 133 = some [.int .i64 0, .int .i64 0, sv [], .bool false, .int .i64 0, .int .i64 0, .int .i64 0, .int .i64 0, .int .i64 0, .int .i64 0, .int .i64 0, .int .i64 0, .int .i64 0, sv [], sv [], .int .i64 0] := by kernel_rfl
theorem jE6 : fOff Tryz.prog 138 0 = some 0 := by kernel_rfl
theorem jKo : fOff Tryz.prog 138 1 = some 1 := by kernel_rfl
theorem jCj : fOff Tryz.prog 138 2 = some 2 := by kernel_rfl
theorem jKF : fOff Tryz.prog 138 3 = some 3 := by kernel_rfl
theorem pl_138 : plI Tryz.prog 138 = some [(0, 1), (1, 1), (2, 1), (3, 1)] := by kernel_rfl
theorem ze_138 : jCL Tryz.prog 138 = some [.slice none 0 0, .int .i64 0, .int .i64 0, .bool false] := by kernel_rfl
theorem jEk : elT Tryz.prog 176 = some (133, 16) := by kernel_rfl
theorem jKC : apI Tryz.prog 176 = some (133, 16, 152) := by kernel_rfl
open Go.RowKit
structure RefD where
  scope : Int
  group : jAU
  name : jAU
deriving DecidableEq
def RefD.cs (r : RefD) : List AV := [AI r.scope, AS r.group, AS r.name]
abbrev RefD.av (r : RefD) : AV := .ag r.cs
theorem eq_Ref (x y : Operand) (s1 s2 : Int) (g1 g2 n1 n2 : jAU) (w : World) : (eqGuard .eql 36 x y (.agg #[.int .i64 s1, sv g1, sv n1]) (.agg #[.int .i64 s2, sv g2, sv n2]) >>= fun _ => binOp .eql 36 (.agg #[.int .i64 s1, sv g1, sv n1]) (.agg #[.int .i64 s2, sv g2, sv n2])).run Tryz.prog w = .ok (.bool (decide (RefD.mk s1 g1 n1 = RefD.mk s2 g2 n2))) w := by
  go_simp
  by_cases h1 : s1 = s2 <;> by_cases h2 : g1 = g2 <;> by_cases h3 : n1 = n2 <;> simp [h1, h2, h3]
section
variable {o : Oper} {t : List AV} {st : List TK} {x y : Operand} {yt : TypeId} {s1 s2 : Int} {g1 g2 n1 n2 : jAU}
theorem jCW (ho : o.op = .binOp .eql 36 x y yt) (hx : evV t x = some (.agg #[.int .i64 s1, sv g1, sv n1])) (hy : evV t y = some (.agg #[.int .i64 s2, sv g2, sv n2])) : ARd Tryz.prog o t st (AB (decide (RefD.mk s1 g1 n1 = RefD.mk s2 g2 n2))) := jC6 ho hx hy (eq_Ref x y s1 s2 g1 g2 n1 n2)
end
set_option maxRecDepth 100000
open Go.RowKit
set_option maxHeartbeats 2000000 in
theorem jJQ (d : Nat) (hu : ∀ a b : Int, ∀ w, (Op.equalIn d 3 (.int .i64 a) (.int .i64 b)).run Tryz.prog w = .ok (a == b) w) (a0 a1 a2 a3 a4 a5 b0 b1 b2 b3 b4 b5 : Int) (w : World) : (Op.equalIn (d + 1) 23 (.agg #[.int .i64 a0, .int .i64 a1, .int .i64 a2, .int .i64 a3, .int .i64 a4, .int .i64 a5]) (.agg #[.int .i64 b0, .int .i64 b1, .int .i64 b2, .int .i64 b3, .int .i64 b4, .int .i64 b5])).run Tryz.prog w = .ok (decide (a0 = b0 ∧ a1 = b1 ∧ a2 = b2 ∧ a3 = b3 ∧ a4 = b4 ∧ a5 = b5)) w := by
  have hs : ∀ w, (sizeOf 3).run Tryz.prog w = .ok 1 w := fun w => by go_simp
  have hg : ∀ w, (isAgg 3).run Tryz.prog w = .ok false w := fun w => by go_simp
  have hp : ∀ (xs : Array Value) (i : Nat) (v : Value) (w : World), xs[i]? = some v → (part 3 xs i).run Tryz.prog w = .ok v w := fun xs i v w h => by
    simp [part, Sem.run_bind, hg, h]
  simp only [Op.equalIn, Sem.run_bind, run_underlying Tryz.underlying23, Result.andThen_ok, hs]
  by_cases h0 : a0 = b0 <;> by_cases h1 : a1 = b1 <;> by_cases h2 : a2 = b2 <;> by_cases h3 : a3 = b3 <;> by_cases h4 : a4 = b4 <;> by_cases h5 : a5 = b5 <;> simp [Std.Legacy.Range.forIn_eq_forIn_range', Std.Legacy.Range.size, List.range', Sem.run_bind, hu, hp, h0, h1, h2, h3, h4, h5]
set_option maxRecDepth 100000
open Go.RowKit
set_option maxHeartbeats 1000000 in
theorem get_any (A : Option Addr) (n c : Nat) (l : List UInt8) (at_ f : Int) (w : World) (h : Rd w w.heap.size 1 A n (bvs l)) (hn : n ≤ 4611686018427387904) :
    Calls Tryz.prog 145 #[.slice A n c, .int .i64 at_, .int .i64 f] w fun e w' => e = .returned (t3 (getN l at_ f)) ∧ w = w' := by
  have hl := h.blen
  have H := Lib.hid h
  clear h
  by_cases gf : f = 1 ∨ f = 2
  · have e0 : (f == 1 || f == 2) = true := by simpa using gf
    by_cases g1 : at_ < 0
    · have d1 := decT g1
      have HF := Lib.hid (show getN l at_ f = (0, 0, 2) by unfold getN; rw [if_pos (by omega)])
      go_enter Tryz.func145, Tryz.ntmps145
      go_wp2_with fail
      (with_reducible refine (jEl f _).mono ?_)
      rintro e w' ⟨rfl, rfl⟩; rw [e0]
      go_wp2_with fail
      go_ret3
      exact ⟨by rw [HF.out]; rfl, rfl⟩
    have d1 := decF g1
    by_cases g2 : (n : Int) < at_
    · have d2 := decT g2
      have HF := Lib.hid (show getN l at_ f = (0, 0, 2) by unfold getN; rw [if_pos (by omega)])
      go_enter Tryz.func145, Tryz.ntmps145
      go_wp2_with fail
      (with_reducible refine (jEl f _).mono ?_)
      rintro e w' ⟨rfl, rfl⟩; rw [e0]
      go_wp2_with fail
      go_ret3
      exact ⟨by rw [HF.out]; rfl, rfl⟩
    have d2 := decF g2
    have HF := Lib.hid (show getN l at_ f = if f = 1 then fixG l at_.toNat else varG l at_.toNat by unfold getN; rw [if_neg (by omega)])
    obtain ⟨k, rfl⟩ : ∃ k : Nat, at_ = k := ⟨at_.toNat, by omega⟩
    rw [Int.toNat_natCast] at HF
    by_cases g3 : f = 1
    · have e1 : (f == 1) = true := by simp [g3]
      have HF2 := Lib.hid (HF.out.trans (if_pos g3))
      clear gf g3
      go_enter Tryz.func145, Tryz.ntmps145
      go_wp2_with fail
      (with_reducible refine (jEl f _).mono ?_)
      rintro e w' ⟨rfl, rfl⟩; rw [e0]
      go_wp2_with fail
      (with_reducible refine (jIW A n c l k _ rfl _ H.out hn (by omega)).mono ?_)
      rintro e w' ⟨rfl, rfl⟩
      generalize fixG l k = p at *
      unfold t3
      go_wp2_with fail
      go_ret3
      exact ⟨by rw [HF2.out]; rfl, rfl⟩
    have e1 : (f == 1) = false := by simp [g3]
    have HF2 := Lib.hid (HF.out.trans (if_neg g3))
    clear gf g3
    go_enter Tryz.func145, Tryz.ntmps145
    go_wp2_with fail
    (with_reducible refine (jEl f _).mono ?_)
    rintro e w' ⟨rfl, rfl⟩; rw [e0]
    go_wp2_with fail
    (with_reducible refine (jJN A n c l k _ rfl _ H.out hn (by omega)).mono ?_)
    rintro e w' ⟨rfl, rfl⟩
    generalize varG l k = p at *
    unfold t3
    go_wp2_with fail
    go_ret3
    exact ⟨by rw [HF2.out]; rfl, rfl⟩
  have e0 : (f == 1 || f == 2) = false := by simpa using gf
  have HF := Lib.hid (show getN l at_ f = (0, 0, 2) by unfold getN; rw [if_pos (by omega)])
  go_enter Tryz.func145, Tryz.ntmps145
  go_wp2_with fail
  (with_reducible refine (jEl f _).mono ?_)
  rintro e w' ⟨rfl, rfl⟩; rw [e0]
  go_wp2_with fail
  go_ret3
  exact ⟨by rw [HF.out]; rfl, rfl⟩
open Go.RowKit
def tabL (t : Nat → Nat) : List Value := (List.range 256).map fun i => .int .u32 (t i : Nat)
def tabV (t : Nat → Nat) : Value := .agg (tabL t).toArray
def tabA (t : Nat → Nat) : List AV := (tabL t).map .sc
theorem jCi (t : Nat → Nat) : (tabA t).length = 256 := by simp [tabA, tabL]
theorem jFY (t : Nat → Nat) {i : Nat} (h : i < 256) : (tabA t)[i]? = some (.sc (.int .u32 (t i : Nat))) := by simp [tabA, tabL, h]
theorem tab_one (t : Nat → Nat) : (tabL t).toArray.all (·.oneCell') = true := by
  rw [Array.all_eq_true_iff_forall_mem]
  intro x hx; simp [tabL] at hx; obtain ⟨i, _, rfl⟩ := hx; rfl
theorem jIN (t : Nat → Nat) : AV.cells? (.sc (tabV t)) = some (tabA t) := by
  simp only [AV.cells?, tabV]
  rw [if_pos (tab_one t)]
  simp [tabA]
theorem tabA_set {t u : Nat → Nat} {i : Nat} (h : i < 256) (hu : ∀ j, j < 256 → u j = if j = i then u i else t j) : (tabA t).set i (.sc (.int .u32 (u i : Nat))) = tabA u := by
  apply List.ext_getElem?
  intro j; rw [List.getElem?_set]
  rcases Nat.lt_or_ge j 256 with hj | hj
  · rw [jFY u hj, jFY t hj, hu j hj]
    by_cases e : i = j
    · subst e; simp [jCi, hj]
    rw [if_neg e, if_neg (fun h => e h.symm)]
  rw [List.getElem?_eq_none (by rw [jCi]; omega), List.getElem?_eq_none (by rw [jCi]; omega)]
  split
  · rw [if_neg (by rw [jCi]; omega)]
  rfl
section
variable {P : Program} {o : Oper} {t : List AV} {st : List TK} {x y : Operand} {K : AV → List TK → Prop} {f : Nat → Nat}
theorem jA7 {ty : TypeId} (k : Nat) {tk : TK} (ho : o.op = .box ty x) (hx : evA t x = .sc (tabV f)) (hk : st[k]? = some tk) (h : K (.bx k (tk.g + 1) 0) (st.set k ⟨tk.g + 1, .box ty (tabA f)⟩)) : AOpB P o t st K := op_box k ho hx (jIN f) rfl hk h
theorem Rep.tab {F : Nat → Prop} {ρ : Loc} {w : World} {v : Value} (h : Rep F ρ st w v (.ag (tabA f))) : v = tabV f := by
  refine h.of_val ?_
  have : AV.vals (tabA f) = some (tabL f) := by
    unfold tabA
    generalize tabL f = l
    induction l with
    | nil => rfl
    | cons v l ih => simp only [List.map_cons, AV.vals, ih]
  simp only [AV.val, this, tabV]
theorem rd_tab {ty bt : TypeId} {k g off : Nat} {cs : List AV} (ho : o.op = .load ty x) (hT : agN P ty = some (some 256)) (hx : evA t x = .bx k g off) (hk : st[k]? = some ⟨g, .box bt cs⟩) (hle : off + 256 ≤ cs.length) (hc : (cs.drop off).take 256 = tabA f) : ARd P o t st (.sc (tabV f)) := fun F ρ w0 w a hs hm => by
  obtain ⟨v, h1, h2⟩ := jFu ho hT hx hk hle hc F ρ w0 w a hs hm
  exact ⟨v, h1.tab ▸ .sc _, h2⟩
theorem jBq {ty bt : TypeId} {k g : Nat} (ho : o.op = .load ty x) (hT : agN P ty = some (some 256)) (hx : evA t x = .bx k g 0) (hk : st[k]? = some ⟨g, .box bt (tabA f)⟩) : ARd P o t st (.sc (tabV f)) := rd_tab ho hT hx hk (by rw [jCi]; omega) (by rw [List.drop_zero, List.take_of_length_le (by rw [jCi]; omega)])
theorem jGP {ty bt : TypeId} {k g : Nat} {f0 : List AV} (ho : o.op = .store ty x y) (hx : evA t x = .bx k g 0) (hk : st[k]? = some ⟨g, .box bt f0⟩) (hl : f0.length = 256) (hy : evA t y = .sc (tabV f)) (hT : szT P ty = some 256) (h : K (.sc undef) (st.set k ⟨g, .box bt (tabA f)⟩)) : AOp P o t st K := by
  refine jFO ho hx hk hy (jIN f) rfl (by rw [jCi]; exact hT) (by rw [jCi, hl]; omega) ?_
  have e : ∀ (zs cs : List AV) (n : Nat), n + zs.length = cs.length → splA cs n zs = cs.take n ++ zs := by
    intro zs
    induction zs with
    | nil => intro cs n hn; simp at hn; subst hn; simp [splA]
    | cons z zs ih =>
      intro cs n hn; rw [splA, ih _ _ (by simp at hn ⊢; omega)]; simp at hn; rw [List.take_succ_eq_append_getElem (by simp; omega), List.take_set, List.set_eq_of_length_le (by simp; omega), List.getElem_set_self]; simp
  rw [e (tabA f) f0 0 (by rw [jCi, hl])]
  simpa using h
end
theorem jLk : szT Tryz.prog 51 = some 256 := by kernel_rfl
theorem jKi : jCL Tryz.prog 51 = some (tabL fun _ => 0) := by kernel_rfl
theorem jLv {o : Oper} {t : List AV} {st : List TK} (ho : o.op = .build 51 #[]) : ARd Tryz.prog o t st (.sc (tabV fun _ => 0)) := fun F ρ w0 w a hs hm => by
  obtain ⟨v, h1, h2⟩ := jCE (qs := []) (cs := tabA fun _ => 0) ho ar_51 jKi rfl rfl F ρ w0 w a hs hm
  exact ⟨v, h1.tab ▸ .sc _, h2⟩
theorem jGG {K : AV → List TK → Prop} {o : Oper} {t : List AV} {st : List TK} (k : Nat) {tk : TK} (ho : o.op = .alloc 51) (hk : st[k]? = some tk) (h : K (.bx k (tk.g + 1) 0) (st.set k ⟨tk.g + 1, .box 51 (tabA fun _ => 0)⟩)) : AOpB Tryz.prog o t st K := jKv k ho jKi hk h
open Go.RowKit
theorem jMo (S : Nat) (h : S < 4294967296) : 4294967295 ^^^ S = 4294967295 - S := by
  apply Nat.eq_of_testBit_eq
  intro i; rw [show 4294967295 - S = 2 ^ 32 - (S + 1) by omega, Nat.testBit_two_pow_sub_succ (by omega), Nat.testBit_xor, show 4294967295 = 2 ^ 32 - 1 by omega, Nat.testBit_two_pow_sub_one]
  by_cases hi : i < 32
  · simp [hi]
  have h2 : S < 2 ^ i := Nat.lt_of_lt_of_le (show S < 2 ^ 32 by omega) (Nat.pow_le_pow_right (by omega) (by omega))
  simp [hi, Nat.testBit_lt_two_pow h2]
theorem jD7 (n : Nat) : IntKind.u8.wrap (n : Int) = ((n % 256 : Nat) : Int) := by rw [show IntKind.u8.wrap (n : Int) = (n : Int) % 256 from rfl]; omega
theorem jBI (n : Nat) (h : n < 4294967296) : IntKind.u32.wrap (n : Int) = (n : Int) := by rw [show IntKind.u32.wrap (n : Int) = (n : Int) % 4294967296 from rfl]; omega
theorem wrap_i64 (n : Nat) (h : n < 9223372036854775808) : IntKind.i64.wrap (n : Int) = (n : Int) := IntWalk.i64_in _ (by omega)
section
variable {P : Program} {o : Oper} {t : List AV} {st : List TK} {x y : Operand} {xt yt : TypeId} {k k' : IntKind}
theorem jJa {a b r : Int} (ho : o.op = .binOp .xor xt x y yt) (hx : evV t x = some (.int k a)) (hy : evV t y = some (.int k b)) (hr : bits .xor k a b = r) : ARd P o t st (.sc (.int k r)) := jC6 ho hx hy fun w => by simp [eqGuard, binOp, intBits_xor, Sem.run_bind, hr]
theorem rd_or {a b r : Int} (ho : o.op = .binOp .or xt x y yt) (hx : evV t x = some (.int k a)) (hy : evV t y = some (.int k b)) (hr : bits .or k a b = r) : ARd P o t st (.sc (.int k r)) := jC6 ho hx hy fun w => by simp [eqGuard, binOp, intBits_or, Sem.run_bind, hr]
theorem jKf {a c r : Nat} {A C : Int} (ho : o.op = .binOp .shr xt x y yt) (hx : evV t x = some (.int k A)) (hy : evV t y = some (.int k' C)) (hA : A = (a : Int)) (hC : C = (c : Int)) (hc : c ≤ k.bits) (hr : a / 2 ^ c = r) : ARd P o t st (.sc (.int k (r : Int))) := jC6 ho hx hy fun w => by
  subst hA hC hr
  have h : Op.shift .shr k (a : Int) k' (c : Int) = pure (.int k ((a : Int) / 2 ^ (c : Int).toNat)) := shift_shr k k' (a : Int) (c : Int) (by omega) (by omega)
  simp [eqGuard, binOp, Sem.run_bind, h]
theorem jL5 {a c : Nat} {A C r : Int} (ho : o.op = .binOp .shl xt x y yt) (hx : evV t x = some (.int k A)) (hy : evV t y = some (.int k' C)) (hA : A = (a : Int)) (hC : C = (c : Int)) (hc : c ≤ k.bits) (hr : k.wrap ((a * 2 ^ c : Nat) : Int) = r) : ARd P o t st (.sc (.int k r)) := jC6 ho hx hy fun w => by
  subst hA hC hr
  have hn : ¬ ((c : Int) < 0) := by omega
  simp only [eqGuard, binOp, Sem.run_bind, Op.shift, if_neg hn, Int.toNat_natCast, Nat.min_eq_left hc]
  simp
theorem jGQ {a c : Nat} {A C r : Int} (ho : o.op = .binOp .quo xt x y yt) (hx : evV t x = some (.int k A)) (hy : evV t y = some (.int k C)) (hA : A = (a : Int)) (hC : C = (c : Int)) (hc : 0 < c) (hr : k.wrap ((a / c : Nat) : Int) = r) : ARd P o t st (.sc (.int k r)) := jC6 ho hx hy fun w => by
  subst hA hC hr
  have hn : ¬ ((c : Int) = 0) := by omega
  simp only [eqGuard, binOp, Sem.run_bind, Op.intDiv, if_neg hn]
  simp [Int.tdiv]
theorem jHg {a c : Nat} {A C : Int} (ho : o.op = .binOp .rem xt x y yt) (hx : evV t x = some (.int k A)) (hy : evV t y = some (.int k C)) (hA : A = (a : Int)) (hC : C = (c : Int)) (hc : 0 < c) : ARd P o t st (.sc (.int k ((a % c : Nat) : Int))) := jC6 ho hx hy fun w => by
  subst hA hC
  have hn : ¬ ((c : Int) = 0) := by omega
  simp only [eqGuard, binOp, Sem.run_bind, Op.intDiv, if_neg hn]
  simp [Int.tmod]
theorem jHO {a : Nat} {A : Int} (ho : o.op = .unOp .xor xt x) (hx : evV t x = some (.int .u32 A)) (hA : A = (a : Int)) (ha : a < 4294967296) : ARd P o t st (.sc (.int .u32 ((4294967295 - a : Nat) : Int))) := rd_un ho hx fun w => by
  subst hA
  have h : bits .xor .u32 IntKind.u32.max (a : Int) = ((4294967295 - a : Nat) : Int) := by
    have e : IntKind.u32.max = ((4294967295 : Nat) : Int) := by decide
    rw [e, u32_xor_nat 4294967295 a (by omega) ha, jMo a ha]
  have hs : IntKind.u32.signed = false := rfl
  simp only [unary_xor, intBits_xor, hs]
  simp [h]
end
open Go.RowKit
section
variable {pre ys : List AV} {t : Nat → Nat} {i : Nat} {z : AV}
end
section
variable {P : Program} {o : Oper} {t : List AV} {st : List TK} {x y : Operand} {K : AV → List TK → Prop} {f : Nat → Nat} {pre ys : List AV} {ty bt : TypeId} {k g off : Nat} {z : AV}
end
section
variable {P : Program} {o : Oper} {t : List AV} {st : List TK} {ops : Array Oper} {l : List Oper} {fuel : Nat} {listed : Array Bool}
end
end Go.Proofs.YtlapcfnmmpbeeaaGreat
