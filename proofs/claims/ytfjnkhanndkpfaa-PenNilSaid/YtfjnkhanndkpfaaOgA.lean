/- An op as bytes, and got from a reader, walked over abstract states. Conditions: ops of int64 numbers and short texts; readers of fewer than 2^40 bytes. -/
import Derived.Test.YtfjnkhanndkpfaaPnA
import Derived.Test.YtfjnkhanndkpfaaOpU
namespace Go.Proofs.Ytfjnkhanndkpfaa
set_option linter.unusedSimpArgs false
set_option linter.unusedVariables false
set_option maxRecDepth 100000
set_option maxRecDepth 100000
open Go.RowKit

def tagsP : Nat → RdrD → List TagD × RdrD
  | 0, r => ([], r)
  | n + 1, r => ((tagsP n r).1 ++ [(rtagP (tagsP n r).2).1], (rtagP (tagsP n r).2).2)
def q1 (r : RdrD) : RdrD := (rtagP r).2
def q2 (r : RdrD) : RdrD := (rtagP (q1 r)).2
def q3 (r : RdrD) : RdrD := (numP (q2 r)).2
def q4 (r : RdrD) : RdrD := (rtextP (q3 r) 12).2
def q5 (r : RdrD) : RdrD := (numP (q4 r)).2
def q6 (r : RdrD) : RdrD := (rtextP (q5 r) 12).2
def q7 (r : RdrD) : RdrD := (rrefP (q6 r)).2
def q8 (r : RdrD) : RdrD := (numP (q7 r)).2
def q9 (r : RdrD) : RdrD := (rflagP (q8 r)).2
def q10 (r : RdrD) : RdrD := (rtextP (q9 r) 40).2
def q11 (r : RdrD) : RdrD := (countP (q10 r) 60).2
def qn (r : RdrD) : Nat := (countP (q10 r) 60).1.toNat
def q12 (r : RdrD) : RdrD := (tagsP (qn r) (q11 r)).2
def rawO (r : RdrD) : OpD := ⟨(rtagP r).1, (rtagP (q1 r)).1, (numP (q2 r)).1, (rtextP (q3 r) 12).1, (numP (q4 r)).1, (rtextP (q5 r) 12).1, (rrefP (q6 r)).1, (numP (q7 r)).1, (rflagP (q8 r)).1, (rtextP (q9 r) 40).1, (tagsP (qn r) (q11 r)).1⟩
def getO (r : RdrD) : OpD × RdrD := if badP (q12 r) then (zeroO, q12 r) else if rightO (rawO r) then (rawO r, q12 r) else (zeroO, spoilP (q12 r))
theorem tags_ok {r : RdrD} (h : r.Ok) : ∀ n, r.Of (tagsP n r).2 ∧ (tagsP n r).1.length = n
  | 0 => ⟨h.of, rfl⟩
  | n + 1 => by
    obtain ⟨a, b⟩ := tags_ok h n
    exact ⟨a.trans a.ok.tag, by rw [tagsP, List.length_append, b]; rfl⟩
section
variable {r : RdrD} (h : r.Ok)
include h
theorem q1_ok : r.Of (q1 r) := h.tag
theorem q2_ok : r.Of (q2 r) := (q1_ok h).trans (q1_ok h).ok.tag
theorem q3_ok : r.Of (q3 r) := (q2_ok h).trans (q2_ok h).ok.num
theorem q4_ok : r.Of (q4 r) := (q3_ok h).trans ((q3_ok h).ok.text 12)
theorem q5_ok : r.Of (q5 r) := (q4_ok h).trans (q4_ok h).ok.num
theorem q6_ok : r.Of (q6 r) := (q5_ok h).trans ((q5_ok h).ok.text 12)
theorem q7_ok : r.Of (q7 r) := (q6_ok h).trans (q6_ok h).ok.ref
theorem q8_ok : r.Of (q8 r) := (q7_ok h).trans (q7_ok h).ok.num
theorem q9_ok : r.Of (q9 r) := (q8_ok h).trans (q8_ok h).ok.flag
theorem q10_ok : r.Of (q10 r) := (q9_ok h).trans ((q9_ok h).ok.text 40)
theorem q11_ok : r.Of (q11 r) := (q10_ok h).trans ((q10_ok h).ok.count 60)
theorem q12_ok : r.Of (q12 r) := (q11_ok h).trans (tags_ok (q11_ok h).ok _).1
end
theorem tags_row {g : Nat} {rs : List TagD} {t : TagD} : TK.mk g (owM true 44 2 (rs.map TagD.cs ++ [[AI t.rep, AI t.n]])) = TK.mk g (owM true 44 2 ((rs ++ [t]).map TagD.cs)) := by
  rw [List.map_append]; rfl
section
variable (g : Nat) (r : RdrD)
set_option maxHeartbeats 1000000 in
theorem oget_c (h : r.Ok) : ACo Try.prog 67 [.bx 0 g 0] (RdrT g r) (fun y os' => y = (getO r).1.av ∧ os' = RdrT g (getO r).2) := by
  obtain ⟨hc1, hc2⟩ := count_bd (q10 r) (most := 60) (by omega)
  have hqn : ((qn r : Nat) : Int) = (countP (q10 r) 60).1 := Int.toNat_of_nonneg hc1
  refine ACo.of' (st0 := [⟨g, .box 128 [.sl (byA r.b), .sc (.int .i64 r.f), .sc (.int .i64 r.at_), .sc (.bool r.bad)]⟩, TK.mk 0 .off, TK.mk 0 .off, TK.mk 0 .off, TK.mk 0 .off]) 57 4 Try.func67 rfl 1 ?_
  refine AW.seq ?_
  refine AW.region ?_
  refine AL.op rfl (AOpB.op (op_alloc 1 rfl ze_47 rfl ?_))
  refine AL.no ?_
  refine AL.nil ?_
  change AW _ _ _ _ _
  refine AW.seq ?_
  refine AW.region ?_
  refine AL.op rfl (AOpB.op (op_alloc 2 rfl ze_47 rfl ?_))
  refine AL.no ?_
  refine AL.nil ?_
  change AW _ _ _ _ _
  refine AW.seq ?_
  refine AW.region ?_
  refine AL.rm ?_
  refine AL.op rfl (calloR (rdtag_c g r h) [0] ?_)
  rintro y os' ⟨rfl, rfl⟩
  refine AL.noR ?_
  refine AL.r (rd_faddr_bx rfl fo_47_0 rfl rfl ⟨_, _, rfl⟩) ?_
  refine AL.op rfl (op_store_ rfl rfl rfl rfl rfl sz_44 ?_)
  refine AL.no ?_
  refine AL.nil ?_
  change AW _ _ _ _ _
  refine AW.seq ?_
  refine AW.region ?_
  refine AL.rm ?_
  refine AL.op rfl (calloR (rdtag_c g (q1 r) (q1_ok h).ok) [0] ?_)
  rintro y os' ⟨rfl, rfl⟩
  refine AL.noR ?_
  refine AL.r (rd_faddr_bx rfl fo_47_1 rfl rfl ⟨_, _, rfl⟩) ?_
  refine AL.op rfl (op_store_ rfl rfl rfl rfl rfl sz_44 ?_)
  refine AL.no ?_
  refine AL.nil ?_
  change AW _ _ _ _ _
  refine AW.seq ?_
  refine AW.region ?_
  refine AL.rm ?_
  refine AL.op rfl (calloR (rnum_c g (q2 r) (q2_ok h).ok) [0] ?_)
  rintro y os' ⟨rfl, rfl⟩
  refine AL.noR ?_
  refine AL.r (rd_faddr_bx rfl fo_47_2 rfl rfl ⟨_, _, rfl⟩) ?_
  refine AL.op rfl (op_store_ rfl rfl rfl rfl rfl sz_2 ?_)
  refine AL.no ?_
  refine AL.nil ?_
  change AW _ _ _ _ _
  refine AW.seq ?_
  refine AW.region ?_
  refine AL.rm ?_
  refine AL.op rfl (calloR (rtext_c g (q3 r) (q3_ok h).ok 12) [0] ?_)
  rintro y os' ⟨rfl, rfl⟩
  refine AL.noR ?_
  refine AL.r (rd_faddr_bx rfl fo_47_3 rfl rfl ⟨_, _, rfl⟩) ?_
  refine AL.op rfl (op_store_ rfl rfl rfl rfl rfl sz_9 ?_)
  refine AL.no ?_
  refine AL.nil ?_
  change AW _ _ _ _ _
  refine AW.seq ?_
  refine AW.region ?_
  refine AL.rm ?_
  refine AL.op rfl (calloR (rnum_c g (q4 r) (q4_ok h).ok) [0] ?_)
  rintro y os' ⟨rfl, rfl⟩
  refine AL.noR ?_
  refine AL.r (rd_faddr_bx rfl fo_47_4 rfl rfl ⟨_, _, rfl⟩) ?_
  refine AL.op rfl (op_store_ rfl rfl rfl rfl rfl sz_3 ?_)
  refine AL.no ?_
  refine AL.nil ?_
  change AW _ _ _ _ _
  refine AW.seq ?_
  refine AW.region ?_
  refine AL.rm ?_
  refine AL.op rfl (calloR (rtext_c g (q5 r) (q5_ok h).ok 12) [0] ?_)
  rintro y os' ⟨rfl, rfl⟩
  refine AL.noR ?_
  refine AL.r (rd_faddr_bx rfl fo_47_5 rfl rfl ⟨_, _, rfl⟩) ?_
  refine AL.op rfl (op_store_ rfl rfl rfl rfl rfl sz_9 ?_)
  refine AL.no ?_
  refine AL.nil ?_
  change AW _ _ _ _ _
  refine AW.seq ?_
  refine AW.region ?_
  refine AL.rm ?_
  refine AL.op rfl (calloR (rdref_c g (q6 r) (q6_ok h).ok) [0] ?_)
  rintro y os' ⟨rfl, rfl⟩
  refine AL.noR ?_
  refine AL.r (rd_faddr_bx rfl fo_47_6 rfl rfl ⟨_, _, rfl⟩) ?_
  refine AL.op rfl (op_store_ rfl rfl rfl rfl rfl sz_27 ?_)
  refine AL.no ?_
  refine AL.nil ?_
  change AW _ _ _ _ _
  refine AW.seq ?_
  refine AW.region ?_
  refine AL.rm ?_
  refine AL.op rfl (calloR (rnum_c g (q7 r) (q7_ok h).ok) [0] ?_)
  rintro y os' ⟨rfl, rfl⟩
  refine AL.noR ?_
  refine AL.r (rd_faddr_bx rfl fo_47_7 rfl rfl ⟨_, _, rfl⟩) ?_
  refine AL.op rfl (op_store_ rfl rfl rfl rfl rfl sz_2 ?_)
  refine AL.no ?_
  refine AL.nil ?_
  change AW _ _ _ _ _
  refine AW.seq ?_
  refine AW.region ?_
  refine AL.rm ?_
  refine AL.op rfl (calloR (rflag_c g (q8 r) (q8_ok h).ok) [0] ?_)
  rintro y os' ⟨rfl, rfl⟩
  refine AL.noR ?_
  refine AL.r (rd_faddr_bx rfl fo_47_8 rfl rfl ⟨_, _, rfl⟩) ?_
  refine AL.op rfl (op_store_ rfl rfl rfl rfl rfl sz_4 ?_)
  refine AL.no ?_
  refine AL.nil ?_
  change AW _ _ _ _ _
  refine AW.seq ?_
  refine AW.region ?_
  refine AL.rm ?_
  refine AL.op rfl (calloR (rtext_c g (q9 r) (q9_ok h).ok 40) [0] ?_)
  rintro y os' ⟨rfl, rfl⟩
  refine AL.noR ?_
  refine AL.r (rd_faddr_bx rfl fo_47_9 rfl rfl ⟨_, _, rfl⟩) ?_
  refine AL.op rfl (op_store_ rfl rfl rfl rfl rfl sz_9 ?_)
  refine AL.no ?_
  refine AL.nil ?_
  change AW _ _ _ _ _
  refine AW.seq ?_
  refine AW.region ?_
  refine AL.rm ?_
  refine AL.op rfl (calloR (rcount_c g (q10 r) (q10_ok h).ok 60) [0] ?_)
  rintro y os' ⟨rfl, rfl⟩
  refine AL.noR ?_
  refine AL.ra ?_
  refine AL.nil ?_
  change AW _ _ _ _ _
  refine AW.seq ?_
  refine AW.seq ?_
  refine AW.region ?_
  refine AL.nilbx 2 14 4 44 2 rfl rfl rfl (by decide) ?_
  refine AL.no ?_
  refine AL.rm ?_
  refine AL.rm ?_
  refine AL.nil ?_
  change AW _ _ _ _ _
  refine AW.block ?_
  refine AW.loopM (ι := Nat × Nat) [39, 40, 41, 42, 43, 44, 45, 46, 47] (fun ⟨j, gL⟩ => [(38, AI (j : Int))]) [3] (fun ⟨j, gL⟩ => [(0, ⟨g, .box 128 [.sl (byA (tagsP j (q11 r)).2.b), .sc (.int .i64 (tagsP j (q11 r)).2.f), .sc (.int .i64 (tagsP j (q11 r)).2.at_), .sc (.bool (tagsP j (q11 r)).2.bad)]⟩), (4, ⟨gL, owM true 44 2 ((tagsP j (q11 r)).1.map TagD.cs)⟩), (2, ⟨1, .box 47 [AI (rtagP r).1.rep, AI (rtagP r).1.n, AI (rtagP (q1 r)).1.rep, AI (rtagP (q1 r)).1.n, AI (numP (q2 r)).1, AS (rtextP (q3 r) 12).1, AI (numP (q4 r)).1, AS (rtextP (q5 r) 12).1, AI (rrefP (q6 r)).1.scope, AS (rrefP (q6 r)).1.group, AS (rrefP (q6 r)).1.name, AI (numP (q7 r)).1, AB (rflagP (q8 r)).1, AS (rtextP (q9 r) 40).1, .ow 4 gL]⟩)]) (fun ⟨j, gL⟩ => j ≤ qn r) (fun ⟨j, gL⟩ => qn r - j) (0, 1) (Nat.zero_le _) (by simp only [anys, upds, offs, List.set_cons_zero, List.set_cons_succ]; repeat (first | exact Wk.nil | refine Wk.same ?_ | refine Wk.any ?_)) (by simp only [anys, upds, offs, List.set_cons_zero, List.set_cons_succ]; repeat (first | exact Sk.nil _ | refine Sk.same _ ?_ | refine Sk.scr _ (by decide) ?_ | refine Sk.eq _ (by rfl) ?_)) ?_
  rintro ⟨j, gL⟩ gs hJ
  refine AW.norm (by simp only [anys, upds, offs, List.set_cons_zero, List.set_cons_succ]; rfl) (by (try simp only [anys, upds, offs, List.set_cons_zero, List.set_cons_succ]); (try rfl)) ?_
  refine AW.seq ?_
  refine AW.region ?_
  refine AL.r (rd_bin rfl rfl rfl (fun _ => rfl)) ?_
  refine AL.nil ?_
  change AW _ _ _ _ _
  refine AW.seq ?_
  refine AW.cd rfl (fun h39 => ?_) (fun h39 => ?_)
  ·skip
   refine AW.skip ?_
   change AW _ _ _ _ _
   refine AW.seq ?_
   refine AW.block ?_
   refine AW.drawA (by kernel_rfl) ?_
   have hto := tags_ok (q11_ok h).ok j
   refine ADA.r 0 rfl (ARdP.a (rdP_faddr_bx rfl fo_47_10 rfl rfl ⟨_, _, rfl⟩)) rfl ?_
   refine ADA.r 2 rfl (ARdP.a (rdP_move rfl rfl)) rfl ?_
   refine ADA.b ?_
   refine ADB.all (is := [1, 3]) (by kernel_rfl) (by simp) ?_
   intro i hi
   simp only [List.mem_cons, List.not_mem_nil, or_false] at hi
   rcases hi with rfl | rfl
   ·skip
    refine ⟨_, rfl, rfl, AOpB.op (ARd.opB (rd_load_bx rfl ag_45 rfl rfl rfl) ?_)⟩
    refine ADB.n ?_
    refine ADB.mv 3 rfl (calloR (rdtag_c g (tagsP j (q11 r)).2 hto.1.ok) [0] ?_)
    rintro y os' ⟨rfl, rfl⟩
    refine ADB.noR ?_
    refine ADB.mv 4 rfl (AOpB.op (bs_set rfl ap_45 ze_44 rfl rfl ?_))
    refine ADB.n ?_
    refine ADB.mv 5 rfl (op_appendM rfl ap_45 rfl rfl (src_s rfl) (by first | omega | (simp; omega) | simp) (by first | omega | (simp; omega) | simp) ?_)
    refine ADB.n ?_
    refine ADB.r 6 rfl (rdP_faddr_bx rfl fo_47_10 rfl rfl ⟨_, _, rfl⟩) rfl ?_
    refine ADB.mv 7 rfl (op_storo rfl rfl rfl rfl rfl sz_45 ?_)
    refine ADB.n ?_
    refine ADB.done (by kernel_rfl) ?_
    change AW _ _ _ _ _
    refine AW.region ?_
    refine AL.r (rd_arith_add rfl rfl rfl (by first | exact IntWalk.i64_in _ (by omega) | rfl)) ?_
    refine AL.rm ?_
    refine AL.nil ?_
    refine ⟨⟨j + 1, gL + 1⟩, ?_, by first | omega | (simp only []; omega), ?_, ?_⟩
    ·show j + 1 ≤ qn r; omega
    ·simp only [anys, upds, offs, List.set_cons_zero, List.set_cons_succ]; repeat (first | exact Wk.nil | refine Wk.same ?_ | refine Wk.any ?_)
    ·simp only [anys, upds, offs, List.set_cons_zero, List.set_cons_succ]; repeat (first | exact Sk.nil _ | refine Sk.same _ ?_ | refine Sk.scr _ (by decide) ?_ | refine Sk.eq _ (by first | rfl | exact tags_row) ?_)
   ·skip
    refine ⟨_, rfl, rfl, calloR (rdtag_c g (tagsP j (q11 r)).2 hto.1.ok) [0] ?_⟩
    rintro y os' ⟨rfl, rfl⟩
    refine ADB.noR ?_
    refine ADB.all (is := [1, 4]) (by kernel_rfl) (by simp) ?_
    intro i hi
    simp only [List.mem_cons, List.not_mem_nil, or_false] at hi
    rcases hi with rfl | rfl
    ·skip
     refine ⟨_, rfl, rfl, AOpB.op (ARd.opB (rd_load_bx rfl ag_45 rfl rfl rfl) ?_)⟩
     refine ADB.n ?_
     refine ADB.mv 4 rfl (AOpB.op (bs_set rfl ap_45 ze_44 rfl rfl ?_))
     refine ADB.n ?_
     refine ADB.mv 5 rfl (op_appendM rfl ap_45 rfl rfl (src_s rfl) (by first | omega | (simp; omega) | simp) (by first | omega | (simp; omega) | simp) ?_)
     refine ADB.n ?_
     refine ADB.r 6 rfl (rdP_faddr_bx rfl fo_47_10 rfl rfl ⟨_, _, rfl⟩) rfl ?_
     refine ADB.mv 7 rfl (op_storo rfl rfl rfl rfl rfl sz_45 ?_)
     refine ADB.n ?_
     refine ADB.done (by kernel_rfl) ?_
     change AW _ _ _ _ _
     refine AW.region ?_
     refine AL.r (rd_arith_add rfl rfl rfl (by first | exact IntWalk.i64_in _ (by omega) | rfl)) ?_
     refine AL.rm ?_
     refine AL.nil ?_
     refine ⟨⟨j + 1, gL + 1⟩, ?_, by first | omega | (simp only []; omega), ?_, ?_⟩
     ·show j + 1 ≤ qn r; omega
     ·simp only [anys, upds, offs, List.set_cons_zero, List.set_cons_succ]; repeat (first | exact Wk.nil | refine Wk.same ?_ | refine Wk.any ?_)
     ·simp only [anys, upds, offs, List.set_cons_zero, List.set_cons_succ]; repeat (first | exact Sk.nil _ | refine Sk.same _ ?_ | refine Sk.scr _ (by decide) ?_ | refine Sk.eq _ (by first | rfl | exact tags_row) ?_)
    ·skip
     refine ⟨_, rfl, rfl, AOpB.op (bs_set rfl ap_45 ze_44 rfl rfl ?_)⟩
     refine ADB.n ?_
     refine ADB.mv 1 rfl (AOpB.op (ARd.opB (rd_load_bx rfl ag_45 rfl rfl rfl) ?_))
     refine ADB.n ?_
     refine ADB.mv 5 rfl (op_appendM rfl ap_45 rfl rfl (src_s rfl) (by first | omega | (simp; omega) | simp) (by first | omega | (simp; omega) | simp) ?_)
     refine ADB.n ?_
     refine ADB.r 6 rfl (rdP_faddr_bx rfl fo_47_10 rfl rfl ⟨_, _, rfl⟩) rfl ?_
     refine ADB.mv 7 rfl (op_storo rfl rfl rfl rfl rfl sz_45 ?_)
     refine ADB.n ?_
     refine ADB.done (by kernel_rfl) ?_
     change AW _ _ _ _ _
     refine AW.region ?_
     refine AL.r (rd_arith_add rfl rfl rfl (by first | exact IntWalk.i64_in _ (by omega) | rfl)) ?_
     refine AL.rm ?_
     refine AL.nil ?_
     refine ⟨⟨j + 1, gL + 1⟩, ?_, by first | omega | (simp only []; omega), ?_, ?_⟩
     ·show j + 1 ≤ qn r; omega
     ·simp only [anys, upds, offs, List.set_cons_zero, List.set_cons_succ]; repeat (first | exact Wk.nil | refine Wk.same ?_ | refine Wk.any ?_)
     ·simp only [anys, upds, offs, List.set_cons_zero, List.set_cons_succ]; repeat (first | exact Sk.nil _ | refine Sk.same _ ?_ | refine Sk.scr _ (by decide) ?_ | refine Sk.eq _ (by first | rfl | exact tags_row) ?_)
  ·skip
   refine AW.exit ?_
   change AW _ _ _ _ _
   refine AW.seq ?_
   refine AW.seq ?_
   refine AW.region ?_
   obtain rfl : j = qn r := (by omega)
   refine AL.rm ?_
   refine AL.op rfl (calloR (rbad_c g (q12 r)) [0] ?_)
   rintro y os' ⟨rfl, rfl⟩
   refine AL.noR ?_
   refine AL.nil ?_
   change AW _ _ _ _ _
   refine AW.cd rfl (fun h49 => ?_) (fun h49 => ?_)
   ·skip
    refine AW.seq ?_
    refine AW.region ?_
    refine AL.r (rd_build rfl pl_47 ze_47 rfl rfl) ?_
    refine AL.op rfl (op_store_ rfl rfl rfl rfl rfl sz_47 ?_)
    refine AL.no ?_
    refine AL.nil ?_
    change AW _ _ _ _ _
    refine AW.ret ?_
    repeat with_reducible first | refine thenA_ret ?_ | refine inBlockA_ret ?_
    with_reducible first | refine retO_ret ?_ | refine retO_normal ?_
    refine reso1R rfl (ResV.cells rfl rfl ag_47 (Nat.le_of_ble_eq_true rfl) rfl) rfl ?_
    rw [getO, if_pos h49]; exact ⟨rfl, rfl⟩
   ·skip
    refine AW.skip ?_
    change AW _ _ _ _ _
    refine AW.seq ?_
    refine AW.seq ?_
    refine AW.region ?_
    refine AL.settlebx 2 14 rfl rfl rfl (by first | rfl | exact cont_owM _ _ _ _) ?_
    refine AL.no ?_
    refine AL.r (rd_loadN_bx rfl ag_47 rfl rfl (Nat.le_of_ble_eq_true rfl) rfl) ?_
    refine AL.op rfl (AOpB.op (op_call (oright_g (rawO r)) rfl (by kernel_rfl) rfl (none) ?_))
    rintro r rfl
    refine AL.no ?_
    refine AL.r (rd_un rfl rfl (fun _ => rfl)) ?_
    refine AL.nil ?_
    change AW _ _ _ _ _
    refine AW.cd rfl (fun h53 => ?_) (fun h53 => ?_)
    ·skip
     refine AW.seq ?_
     refine AW.region ?_
     refine AL.rm ?_
     refine AL.op rfl (calloR (rspoil_c g (q12 r)) [0] ?_)
     rintro y os' ⟨rfl, rfl⟩
     refine AL.noR ?_
     refine AL.nil ?_
     change AW _ _ _ _ _
     refine AW.seq ?_
     refine AW.region ?_
     refine AL.r (rd_build rfl pl_47 ze_47 rfl rfl) ?_
     refine AL.op rfl (op_store_ rfl rfl rfl rfl rfl sz_47 ?_)
     refine AL.no ?_
     refine AL.nil ?_
     change AW _ _ _ _ _
     refine AW.ret ?_
     repeat with_reducible first | refine thenA_ret ?_ | refine inBlockA_ret ?_
     with_reducible first | refine retO_ret ?_ | refine retO_normal ?_
     refine reso1R rfl (ResV.cells rfl rfl ag_47 (Nat.le_of_ble_eq_true rfl) rfl) rfl ?_
     rw [getO, if_neg (by rw [h49]; decide), if_neg (by rw [h53]; decide)]; exact ⟨rfl, rfl⟩
    ·skip
     refine AW.skip ?_
     change AW _ _ _ _ _
     refine AW.seq ?_
     refine AW.region ?_
     refine AL.r (rd_loadN_bx rfl ag_47 rfl rfl (Nat.le_of_ble_eq_true rfl) rfl) ?_
     refine AL.op rfl (op_store_ rfl rfl rfl rfl rfl sz_47 ?_)
     refine AL.no ?_
     refine AL.nil ?_
     change AW _ _ _ _ _
     refine AW.ret ?_
     repeat with_reducible first | refine thenA_ret ?_ | refine inBlockA_ret ?_
     with_reducible first | refine retO_ret ?_ | refine retO_normal ?_
     refine reso1R rfl (ResV.cells rfl rfl ag_47 (Nat.le_of_ble_eq_true rfl) rfl) rfl ?_
     rw [getO, if_neg (by rw [h49]; decide), if_pos h53]; exact ⟨rfl, rfl⟩
end
end Go.Proofs.Ytfjnkhanndkpfaa
