/- The law PoolFull, walked over abstract states. No conditions. -/
import Derived.Test.YtfjnkhanndkpfaaPlX
import Derived.Test.YtfjnkhanndkpfaaPlT
import Derived.Test.YtfjnkhanndkpfaaTab
namespace Go.Proofs.Ytfjnkhanndkpfaa
set_option linter.unusedSimpArgs false
set_option linter.unusedVariables false
set_option maxRecDepth 100000
set_option maxRecDepth 100000
open Go.RowKit

theorem ops_len {p : PoolD} (h : OkP p) : (sinceL p zeroV 400).length = totP p := by rw [ops_cat h, cat_len]
set_option maxHeartbeats 4000000 in
theorem pfull_c (fr mo : Nat) (hf : fr < 256) (hm : mo < 256) : AC Try.prog 5 [.sc (.int .u8 (fr : Int)), .sc (.int .u8 (mo : Int))] (fun x => x = .s (AB true)) := by
  refine AC.of' 82 2 Try.func5 rfl ?_
  change AW _ _ _ _ [TK.mk 0 .off, TK.mk 0 .off]
  refine AW.seq ?_
  refine AW.region ?_
  refine AL.ra ?_
  refine AL.nil ?_
  change AW _ _ _ _ _
  refine AW.seq ?_
  refine AW.seq ?_
  refine AW.region ?_
  refine AL.op rfl (AOpB.op (op_call (awake26) rfl (by kernel_rfl) rfl (none) ?_))
  rintro r rfl
  refine AL.no ?_
  refine AL.r (rd_un rfl rfl (fun _ => rfl)) ?_
  refine AL.nil ?_
  change AW _ _ _ _ _
  refine AW.cond_f rfl ?_
  refine AW.skip ?_
  change AW _ _ _ _ _
  refine AW.seq ?_
  refine AW.region ?_
  refine AL.op rfl (calloQ (op_new 0) [0] ?_)
  rintro y os' ⟨rfl, rfl⟩
  refine AL.noQ ?_
  refine AL.ra ?_
  refine AL.nil ?_
  change AW _ _ _ _ _
  refine AW.seq ?_
  refine AW.region ?_
  refine AL.ra ?_
  refine AL.nil ?_
  change AW _ _ _ _ _
  refine AW.seq ?_
  refine AW.seq ?_
  refine AW.region ?_
  refine AL.ra ?_
  refine AL.nil ?_
  change AW _ _ _ _ _
  refine AW.block ?_
  refine AW.loopM (ι := Nat × PoolD × Nat) [4, 8, 9, 10, 11, 12, 16, 17, 18, 19, 20, 21, 22, 23, 24, 25, 26, 27, 28, 29, 30, 31, 32, 33, 34, 35, 36, 37, 38, 39, 40, 41, 42, 43, 44, 45, 46, 47, 48, 49, 50, 51, 52, 53, 54, 55, 56, 57, 58, 59, 60, 61, 62, 63, 64, 65, 66, 67, 68] (fun ⟨i, p, n⟩ => [(7, AI (i : Int)), (6, AI (n : Int))]) [1] (fun ⟨i, p, n⟩ => [(0, ⟨1, .obj (PoolP p)⟩)]) (fun ⟨i, p, n⟩ => i ≤ 395 + mo % 12 ∧ FullJ fr i p ∧ totP p = n) (fun ⟨i, p, n⟩ => 395 + mo % 12 - i) ⟨0, newP, 0⟩ (⟨Nat.zero_le _, full_0 fr, rfl⟩) (by simp only [anys, upds, offs, List.set_cons_zero, List.set_cons_succ]; repeat (first | exact Wk.nil | refine Wk.same ?_ | refine Wk.any ?_)) (by simp only [anys, upds, offs, List.set_cons_zero, List.set_cons_succ]; repeat (first | exact Sk.nil _ | refine Sk.same _ ?_ | refine Sk.scr _ (by decide) ?_)) ?_
  rintro ⟨i, p, n⟩ gs hJ
  refine AW.norm (by simp only [anys, upds, offs, List.set_cons_zero, List.set_cons_succ]; rfl) (by (try simp only [anys, upds, offs, List.set_cons_zero, List.set_cons_succ]); (try rfl)) ?_
  obtain ⟨hi, hF, hn⟩ := hJ
  have htn := hF.tot
  refine AW.seq ?_
  refine AW.seq ?_
  refine AW.region ?_
  refine AL.rm ?_
  refine AL.rm ?_
  refine AL.r (rd_rem (c := 12) rfl rfl rfl rfl rfl (by omega)) ?_
  refine AL.r (rd_conv_int rfl iss_5 ik_3 rfl (wrap_i64 _ (by omega))) ?_
  refine AL.r (rd_arith_add rfl rfl rfl (by first | exact IntWalk.i64_in _ (by omega) | rfl)) ?_
  refine AL.r (rd_bin rfl rfl rfl (fun _ => rfl)) ?_
  refine AL.nil ?_
  change AW _ _ _ _ _
  refine AW.cd rfl (fun h21 => ?_) (fun h21 => ?_)
  ·skip
   refine AW.skip ?_
   change AW _ _ _ _ _
   refine AW.seq ?_
   refine AW.block ?_
   refine AW.seq ?_
   refine AW.region ?_
   refine AL.rm ?_
   refine AL.r (rd_rem (c := 6) rfl rfl rfl rfl rfl (by omega)) ?_
   refine AL.r (rd_conv_int rfl iss_5 ik_3 rfl (wrap_i64 _ (by omega))) ?_
   refine AL.rm ?_
   refine AL.r (rd_arith_add rfl rfl rfl (show _ = (((fr % 6 + i : Nat)) : Int) from (by rw [IntWalk.i64_in _ (by omega)]; omega))) ?_
   refine AL.r (rd_rem (c := 6) rfl rfl rfl rfl rfl (by omega)) ?_
   refine AL.ra ?_
   refine AL.nil ?_
   change AW _ _ _ _ _
   refine AW.seq ?_
   refine AW.region ?_
   refine AL.rm ?_
   refine AL.r (rd_arith_add rfl rfl rfl (by first | exact IntWalk.i64_in _ (by omega) | rfl)) ?_
   refine AL.rm ?_
   refine AL.r (rd_quo (c := 6) rfl rfl rfl rfl rfl (by omega) (wrap_i64 _ (by omega))) ?_
   refine AL.r (rd_arith_add rfl rfl rfl (by first | exact IntWalk.i64_in _ (by omega) | rfl)) ?_
   refine AL.r (rd_build rfl pl_44 ze_44 rfl rfl) ?_
   refine AL.rm ?_
   refine AL.r (rd_arith_add rfl rfl rfl (by first | exact IntWalk.i64_in _ (by omega) | rfl)) ?_
   refine AL.r (rd_build rfl pl_47 ze_47 rfl rfl) ?_
   refine AL.op rfl (AOpB.op (op_alloc 1 rfl ze_47 rfl ?_))
   refine AL.no ?_
   refine AL.op rfl (op_store_ rfl rfl rfl rfl rfl sz_47 ?_)
   refine AL.no ?_
   refine AL.nil ?_
   change AW _ _ _ _ _
   refine AW.seq ?_
   refine AW.region ?_
   refine AL.ra ?_
   refine AL.nil ?_
   change AW _ _ _ _ _
   refine AW.seq ?_
   refine AW.seq ?_
   refine AW.region ?_
   refine AL.rm ?_
   refine AL.r (rd_bin rfl rfl rfl (fun _ => rfl)) ?_
   refine AL.nil ?_
   change AW _ _ _ _ _
   refine AW.cd rfl (fun h40 => ?_) (fun h40 => ?_)
   ·skip
    refine AW.region ?_
    have h4 : 400 ≤ i := (by omega); obtain ⟨c1, hN⟩ := full_stop hF (by omega) h4
    refine AL.ra ?_
    refine AL.nil ?_
    change AW _ _ _ _ _
    refine AW.seq ?_
    refine AW.region ?_
    refine AL.rm ?_
    refine AL.r (rd_loadN_bx rfl ag_47 rfl rfl (Nat.le_of_ble_eq_true rfl) rfl) ?_
    refine AL.op rfl (calloQ (op_put hF.ok 1 (fo fr i)) [0] ?_)
    rintro y os' ⟨rfl, rfl⟩
    refine AL.noQ ?_
    refine AL.ra ?_
    refine AL.nil ?_
    change AW _ _ _ _ _
    refine AW.seq ?_
    refine AW.seq ?_
    refine AW.region ?_
    refine AL.rm ?_
    refine AL.rm ?_
    refine AL.r (rd_bin rfl rfl rfl (fun _ => rfl)) ?_
    refine AL.rm ?_
    refine AL.fk (d := 47) rfl (fun h47 => ?_) (fun h47 => ?_)
    ·skip
     refine AL.n ?_
     refine AL.ro (rd_move rfl rfl) ?_
     refine AL.ro (rd_bin rfl rfl rfl (fun _ => rfl)) ?_
     refine AL.ro (rd_move rfl rfl) ?_
     refine AL.fk (d := 50) rfl (fun h50 => ?_) (fun h50 => ?_)
     ·skip
      refine AL.n ?_
      refine AL.ro (rd_move rfl rfl) ?_
      refine AL.ro (rd_bin rfl rfl rfl (fun _ => rfl)) ?_
      refine AL.ro (rd_pick_t rfl rfl rfl) ?_
      refine AL.ro (rd_un rfl rfl (fun _ => rfl)) ?_
      refine AL.r (rd_pick_t rfl rfl rfl) ?_
      refine AL.nil ?_
      change AW _ _ _ _ _
      refine AW.cd rfl (fun h55 => ?_) (fun h55 => ?_)
      ·skip
       rcases c1 with e | e <;> simp_all
      ·skip
       refine AW.skip ?_
       change AW _ _ _ _ _
       refine AW.seq ?_
       refine AW.seq ?_
       refine AW.region ?_
       refine AL.rm ?_
       refine AL.r (rd_bin rfl rfl rfl (fun _ => rfl)) ?_
       refine AL.nil ?_
       change AW _ _ _ _ _
       refine AW.cd rfl (fun h57 => ?_) (fun h57 => ?_)
       ·skip
        rcases c1 with e | e <;> (rw [e] at h57; exact absurd h57 (by decide))
       ·skip
        refine AW.skip ?_
        change AW _ _ _ _ _
        refine AW.seq ?_
        refine AW.region ?_
        refine AL.rm ?_
        refine AL.r (rd_loadN_bx rfl ag_47 rfl rfl (Nat.le_of_ble_eq_true rfl) rfl) ?_
        refine AL.op rfl (calloQ (op_put (hF.ok.put (fo fr i)) 1 (fo fr i)) [0] ?_)
        rintro y os' ⟨rfl, rfl⟩
        refine AL.noQ ?_
        refine AL.ra ?_
        refine AL.nil ?_
        change AW _ _ _ _ _
        refine AW.seq ?_
        refine AW.region ?_
        refine AL.rm ?_
        refine AL.r (rd_bin rfl rfl rfl (fun _ => rfl)) ?_
        refine AL.rm ?_
        refine AL.fk (d := 65) rfl (fun h65 => ?_) (fun h65 => ?_)
        ·skip
         exact absurd h65 h57
        ·skip
         refine AL.n ?_
         refine AL.rf ?_
         refine AL.rf ?_
         refine AL.r (rd_pick_f rfl rfl rfl) ?_
         refine AL.nil ?_
         change AW _ _ _ _ _
         refine AW.cond_f rfl ?_
         refine AW.skip ?_
         change AW _ _ _ _ _
         refine AW.region ?_
         refine AL.rm ?_
         refine AL.r (rd_arith_add rfl rfl rfl (by first | exact IntWalk.i64_in _ (by omega) | rfl)) ?_
         refine AL.ra ?_
         refine AL.nil ?_
         first
           | refine ⟨⟨i + 1, putP (putP p (fo fr i)) (fo fr i), n⟩, ?_, ?_, ?_, ?_⟩
             ·exact ⟨by omega, hN, by rw [hN.tot]; omega⟩
             ·first | omega | (simp only []; omega)
             ·simp only [anys, upds, offs, List.set_cons_zero, List.set_cons_succ]; repeat (first | exact Wk.nil | refine Wk.same ?_ | refine Wk.any ?_)
             ·simp only [anys, upds, offs, List.set_cons_zero, List.set_cons_succ]; repeat (first | exact Sk.nil _ | refine Sk.same _ ?_ | refine Sk.scr _ (by decide) ?_)
           | refine ⟨⟨i + 1, putP (putP p (fo fr i)) (fo fr i), n + 1⟩, ?_, ?_, ?_, ?_⟩
             ·exact ⟨by omega, (full_go hF (by omega) (by omega)).2.2, by rw [(full_go hF (by omega) (by omega)).2.2.tot]; omega⟩
             ·first | omega | (simp only []; omega)
             ·simp only [anys, upds, offs, List.set_cons_zero, List.set_cons_succ]; repeat (first | exact Wk.nil | refine Wk.same ?_ | refine Wk.any ?_)
             ·simp only [anys, upds, offs, List.set_cons_zero, List.set_cons_succ]; repeat (first | exact Sk.nil _ | refine Sk.same _ ?_ | refine Sk.scr _ (by decide) ?_)
     ·skip
      rcases c1 with e | e; exact absurd e h47; exact absurd e h50
    ·skip
     refine AL.n ?_
     refine AL.rf ?_
     refine AL.rf ?_
     refine AL.rf ?_
     refine AL.ru ?_
     refine AL.ru ?_
     refine AL.rf ?_
     refine AL.rf ?_
     refine AL.r (rd_pick_f rfl rfl rfl) ?_
     refine AL.nil ?_
     change AW _ _ _ _ _
     refine AW.cond_f rfl ?_
     refine AW.skip ?_
     change AW _ _ _ _ _
     refine AW.seq ?_
     refine AW.seq ?_
     refine AW.region ?_
     refine AL.rm ?_
     refine AL.r (rd_bin rfl rfl rfl (fun _ => rfl)) ?_
     refine AL.nil ?_
     change AW _ _ _ _ _
     refine AW.cd rfl (fun h57 => ?_) (fun h57 => ?_)
     ·skip
      rcases c1 with e | e <;> (rw [e] at h57; exact absurd h57 (by decide))
     ·skip
      refine AW.skip ?_
      change AW _ _ _ _ _
      refine AW.seq ?_
      refine AW.region ?_
      refine AL.rm ?_
      refine AL.r (rd_loadN_bx rfl ag_47 rfl rfl (Nat.le_of_ble_eq_true rfl) rfl) ?_
      refine AL.op rfl (calloQ (op_put (hF.ok.put (fo fr i)) 1 (fo fr i)) [0] ?_)
      rintro y os' ⟨rfl, rfl⟩
      refine AL.noQ ?_
      refine AL.ra ?_
      refine AL.nil ?_
      change AW _ _ _ _ _
      refine AW.seq ?_
      refine AW.region ?_
      refine AL.rm ?_
      refine AL.r (rd_bin rfl rfl rfl (fun _ => rfl)) ?_
      refine AL.rm ?_
      refine AL.fk (d := 65) rfl (fun h65 => ?_) (fun h65 => ?_)
      ·skip
       exact absurd h65 h57
      ·skip
       refine AL.n ?_
       refine AL.rf ?_
       refine AL.rf ?_
       refine AL.r (rd_pick_f rfl rfl rfl) ?_
       refine AL.nil ?_
       change AW _ _ _ _ _
       refine AW.cond_f rfl ?_
       refine AW.skip ?_
       change AW _ _ _ _ _
       refine AW.region ?_
       refine AL.rm ?_
       refine AL.r (rd_arith_add rfl rfl rfl (by first | exact IntWalk.i64_in _ (by omega) | rfl)) ?_
       refine AL.ra ?_
       refine AL.nil ?_
       first
         | refine ⟨⟨i + 1, putP (putP p (fo fr i)) (fo fr i), n⟩, ?_, ?_, ?_, ?_⟩
           ·exact ⟨by omega, hN, by rw [hN.tot]; omega⟩
           ·first | omega | (simp only []; omega)
           ·simp only [anys, upds, offs, List.set_cons_zero, List.set_cons_succ]; repeat (first | exact Wk.nil | refine Wk.same ?_ | refine Wk.any ?_)
           ·simp only [anys, upds, offs, List.set_cons_zero, List.set_cons_succ]; repeat (first | exact Sk.nil _ | refine Sk.same _ ?_ | refine Sk.scr _ (by decide) ?_)
         | refine ⟨⟨i + 1, putP (putP p (fo fr i)) (fo fr i), n + 1⟩, ?_, ?_, ?_, ?_⟩
           ·exact ⟨by omega, (full_go hF (by omega) (by omega)).2.2, by rw [(full_go hF (by omega) (by omega)).2.2.tot]; omega⟩
           ·first | omega | (simp only []; omega)
           ·simp only [anys, upds, offs, List.set_cons_zero, List.set_cons_succ]; repeat (first | exact Wk.nil | refine Wk.same ?_ | refine Wk.any ?_)
           ·simp only [anys, upds, offs, List.set_cons_zero, List.set_cons_succ]; repeat (first | exact Sk.nil _ | refine Sk.same _ ?_ | refine Sk.scr _ (by decide) ?_)
   ·skip
    refine AW.skip ?_
    change AW _ _ _ _ _
    refine AW.seq ?_
    refine AW.region ?_
    refine AL.rm ?_
    refine AL.r (rd_loadN_bx rfl ag_47 rfl rfl (Nat.le_of_ble_eq_true rfl) rfl) ?_
    refine AL.op rfl (calloQ (op_put hF.ok 1 (fo fr i)) [0] ?_)
    rintro y os' ⟨rfl, rfl⟩
    refine AL.noQ ?_
    refine AL.ra ?_
    refine AL.nil ?_
    change AW _ _ _ _ _
    refine AW.seq ?_
    refine AW.seq ?_
    refine AW.region ?_
    refine AL.rm ?_
    refine AL.rm ?_
    refine AL.r (rd_bin rfl rfl rfl (fun _ => rfl)) ?_
    refine AL.rm ?_
    refine AL.fk (d := 47) rfl (fun h47 => ?_) (fun h47 => ?_)
    ·skip
     exact absurd (full_go hF (by omega) (by omega)).1 h47
    ·skip
     refine AL.n ?_
     refine AL.rf ?_
     refine AL.rf ?_
     refine AL.rf ?_
     refine AL.ru ?_
     refine AL.ru ?_
     refine AL.rf ?_
     refine AL.rf ?_
     refine AL.r (rd_pick_f rfl rfl rfl) ?_
     refine AL.nil ?_
     change AW _ _ _ _ _
     refine AW.cond_f rfl ?_
     refine AW.skip ?_
     change AW _ _ _ _ _
     refine AW.seq ?_
     refine AW.seq ?_
     refine AW.region ?_
     refine AL.rm ?_
     refine AL.r (rd_bin rfl rfl rfl (fun _ => rfl)) ?_
     refine AL.nil ?_
     change AW _ _ _ _ _
     refine AW.cd rfl (fun h57 => ?_) (fun h57 => ?_)
     ·skip
      refine AW.region ?_
      refine AL.rm ?_
      refine AL.r (rd_arith_add rfl rfl rfl (by first | exact IntWalk.i64_in _ (by omega) | rfl)) ?_
      refine AL.ra ?_
      refine AL.nil ?_
      change AW _ _ _ _ _
      refine AW.seq ?_
      refine AW.region ?_
      refine AL.rm ?_
      refine AL.r (rd_loadN_bx rfl ag_47 rfl rfl (Nat.le_of_ble_eq_true rfl) rfl) ?_
      refine AL.op rfl (calloQ (op_put (hF.ok.put (fo fr i)) 1 (fo fr i)) [0] ?_)
      rintro y os' ⟨rfl, rfl⟩
      refine AL.noQ ?_
      refine AL.ra ?_
      refine AL.nil ?_
      change AW _ _ _ _ _
      refine AW.seq ?_
      refine AW.region ?_
      refine AL.rm ?_
      refine AL.r (rd_bin rfl rfl rfl (fun _ => rfl)) ?_
      refine AL.rm ?_
      refine AL.fk (d := 65) rfl (fun h65 => ?_) (fun h65 => ?_)
      ·skip
       refine AL.n ?_
       refine AL.ro (rd_move rfl rfl) ?_
       refine AL.ro (rd_bin rfl rfl rfl (fun _ => rfl)) ?_
       refine AL.r (rd_pick_t rfl rfl rfl) ?_
       refine AL.nil ?_
       change AW _ _ _ _ _
       refine AW.cd rfl (fun h68 => ?_) (fun h68 => ?_)
       ·skip
        exact absurd (full_go hF (by omega) (by omega)).2.1 h68
       ·skip
        refine AW.skip ?_
        change AW _ _ _ _ _
        refine AW.region ?_
        refine AL.rm ?_
        refine AL.r (rd_arith_add rfl rfl rfl (by first | exact IntWalk.i64_in _ (by omega) | rfl)) ?_
        refine AL.ra ?_
        refine AL.nil ?_
        refine ⟨⟨i + 1, putP (putP p (fo fr i)) (fo fr i), n + 1⟩, ?_, by first | omega | (simp only []; omega), ?_, ?_⟩
        ·exact ⟨by omega, (full_go hF (by omega) (by omega)).2.2, by rw [(full_go hF (by omega) (by omega)).2.2.tot]; omega⟩
        ·simp only [anys, upds, offs, List.set_cons_zero, List.set_cons_succ]; repeat (first | exact Wk.nil | refine Wk.same ?_ | refine Wk.any ?_)
        ·simp only [anys, upds, offs, List.set_cons_zero, List.set_cons_succ]; repeat (first | exact Sk.nil _ | refine Sk.same _ ?_ | refine Sk.scr _ (by decide) ?_)
      ·skip
       exact absurd (full_go hF (by omega) (by omega)).1 h65
     ·skip
      exact absurd (full_go hF (by omega) (by omega)).1 h57
  ·skip
   refine AW.exit ?_
   change AW _ _ _ _ _
   refine AW.seq ?_
   refine AW.region ?_
   refine AL.rm ?_
   refine AL.op rfl (calloQ (op_len hF.ok 1) [0] ?_)
   rintro y os' ⟨rfl, rfl⟩
   refine AL.noQ ?_
   refine AL.rm ?_
   refine AL.r (rd_bin rfl rfl rfl (fun _ => rfl)) ?_
   refine AL.rm ?_
   refine AL.fk (d := 73) rfl (fun h73 => ?_) (fun h73 => ?_)
   ·skip
    refine AL.n ?_
    refine AL.ro (rd_move rfl rfl) ?_
    refine AL.on rfl rfl rfl (calloQ (op_ops hF.ok 1) [0] ?_)
    rintro y os' ⟨rfl, rfl⟩
    refine AL.noQ ?_
    refine AL.ro (rd_len_sl rfl el_50 rfl) ?_
    refine AL.ro (rd_move rfl rfl) ?_
    refine AL.ro (rd_bin rfl rfl rfl (fun _ => rfl)) ?_
    refine AL.r (rd_pick_t rfl rfl rfl) ?_
    refine AL.rm ?_
    refine AL.fk (d := 80) rfl (fun h80 => ?_) (fun h80 => ?_)
    ·skip
     refine AL.n ?_
     refine AL.ro (rd_move rfl rfl) ?_
     refine AL.ro (rd_bin rfl rfl rfl (fun _ => rfl)) ?_
     refine AL.r (rd_pick_t rfl rfl rfl) ?_
     refine AL.ra ?_
     refine AL.nil ?_
     change AW _ _ _ _ _
     refine AW.ret ?_
     change ResA _ _ _ _ _
     refine res1 rfl (ResV.tmp rfl) rfl ?_
     refine congrArg (fun b => RS.s (AB b)) ?_; exact decide_eq_true (by omega)
    ·skip
     exact absurd (ops_len hF.ok) (by omega)
   ·skip
    exact absurd hn (by omega)
theorem walk_PoolFull (w : World) (a0 : Int) (w0 : (Lit.int .u8 a0).wf = true) (a1 : Int) (w1 : (Lit.int .u8 a1).wf = true) :
    Calls Try.prog 5 #[.int .u8 a0, .int .u8 a1] w fun e w' => e = .returned (.bool true) ∧ Below w.heap.size w w' := by
  have hb := bounds_u8 w0
  have hc := bounds_u8 w1
  obtain ⟨f, rfl⟩ : ∃ m : Nat, a0 = (m : Int) := ⟨a0.toNat, by omega⟩
  obtain ⟨m, rfl⟩ : ∃ m : Nat, a1 = (m : Int) := ⟨a1.toNat, by omega⟩
  exact (pfull_c f m (by omega) (by omega)).law (vs := [.int .u8 (f : Int), .int .u8 (m : Int)]) rfl (rep_cons (.sc _) (rep_cons (.sc _) rep_nil))
end Go.Proofs.Ytfjnkhanndkpfaa
