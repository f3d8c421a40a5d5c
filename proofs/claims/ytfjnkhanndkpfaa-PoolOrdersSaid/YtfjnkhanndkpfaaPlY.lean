/- The law PoolOrders, walked over abstract states. No conditions. -/
import Derived.Test.YtfjnkhanndkpfaaPlX
import Derived.Test.YtfjnkhanndkpfaaPlT
import Derived.Test.YtfjnkhanndkpfaaTab
namespace Go.Proofs.Ytfjnkhanndkpfaa
set_option linter.unusedSimpArgs false
set_option linter.unusedVariables false
set_option maxRecDepth 100000
set_option maxRecDepth 100000
open Go.RowKit

set_option maxHeartbeats 4000000 in
theorem porders_c (a b : List OpD) (tn : Nat) : AC Try.prog 6 [.sl (a.map OpD.cs), .sl (b.map OpD.cs), .sc (.int .u64 (tn : Int))] (fun x => x = .s (AB true)) := by
  refine AC.of' 126 2 Try.func6 rfl ?_
  change AW _ _ _ _ [TK.mk 0 .off, TK.mk 0 .off]
  refine AW.seq ?_
  refine AW.region ?_
  refine AL.ra ?_
  refine AL.nil ?_
  change AW _ _ _ _ _
  refine AW.seq ?_
  refine AW.seq ?_
  refine AW.region ?_
  refine AL.op rfl (AOpB.op (op_call (awake26) rfl (by kernel_rfl) rfl (none) ?_))
  rintro r rfl
  refine AL.no ?_
  refine AL.r (rd_un rfl rfl (fun _ => rfl)) ?_
  refine AL.nil ?_
  change AW _ _ _ _ _
  refine AW.cond_f rfl ?_
  refine AW.skip ?_
  change AW _ _ _ _ _
  refine AW.seq ?_
  refine AW.seq ?_
  refine AW.region ?_
  refine AL.rm ?_
  refine AL.op rfl (AOpB.op (op_call (rheavyos_c a 30) rfl (by kernel_rfl) rfl (none) ?_))
  rintro r rfl
  refine AL.no ?_
  refine AL.rm ?_
  refine AL.fk (d := 19) rfl (fun h19 => ?_) (fun h19 => ?_)
  ·skip
   refine AL.n ?_
   refine AL.rf ?_
   refine AL.rf ?_
   refine AL.r (rd_pick_t rfl rfl rfl) ?_
   refine AL.nil ?_
   change AW _ _ _ _ _
   refine AW.cond_t rfl ?_
   refine AW.seq ?_
   refine AW.region ?_
   refine AL.ra ?_
   refine AL.nil ?_
   change AW _ _ _ _ _
   refine AW.ret ?_
   change ResA _ _ _ _ _
   refine res1 rfl (ResV.tmp rfl) rfl ?_
   rfl
  ·skip
   refine AL.n ?_
   refine AL.ro (rd_move rfl rfl) ?_
   refine AL.on rfl rfl rfl (AOpB.op (op_call (rheavyos_c b 30) rfl (by kernel_rfl) rfl (none) ?_))
   rintro r rfl
   refine AL.no ?_
   refine AL.r (rd_pick_f rfl rfl rfl) ?_
   refine AL.nil ?_
   change AW _ _ _ _ _
   refine AW.cd rfl (fun h22 => ?_) (fun h22 => ?_)
   ·skip
    refine AW.seq ?_
    refine AW.region ?_
    refine AL.ra ?_
    refine AL.nil ?_
    change AW _ _ _ _ _
    refine AW.ret ?_
    change ResA _ _ _ _ _
    refine res1 rfl (ResV.tmp rfl) rfl ?_
    rfl
   ·skip
    refine AW.skip ?_
    change AW _ _ _ _ _
    refine AW.seq ?_
    refine AW.seq ?_
    refine AW.region ?_
    have hla := (heavyOs_f (l := a) (most := 30) (by assumption)).1
    have hlb := (heavyOs_f (l := b) (most := 30) (by assumption)).1
    refine AL.ra ?_
    refine AL.nil ?_
    change AW _ _ _ _ _
    refine AW.block ?_
    refine AW.loopM (ι := Nat) [6, 8, 23, 24, 25, 26, 27, 28, 29, 30, 31, 32, 33, 34, 35, 36, 37, 38, 39, 40, 41, 42, 43, 44, 45, 46, 47] (fun i => [(7, AI (i : Int))]) [] (fun i => []) (fun i => i ≤ a.length ∧ ∀ x (hx : x < a.length), x < i → ∀ y ∈ b, a[x].id.rep ≠ y.id.rep) (fun i => a.length - i) 0 (⟨Nat.zero_le _, fun x _ hx => absurd hx (by omega)⟩) (by simp only [anys, upds, offs, List.set_cons_zero, List.set_cons_succ]; repeat (first | exact Wk.nil | refine Wk.same ?_ | refine Wk.any ?_)) (by simp only [anys, upds, offs, List.set_cons_zero, List.set_cons_succ]; repeat (first | exact Sk.nil _ | refine Sk.same _ ?_ | refine Sk.scr _ (by decide) ?_)) ?_
    rintro i gs hJ
    refine AW.norm (by simp only [anys, upds, offs, List.set_cons_zero, List.set_cons_succ]; rfl) (by (try simp only [anys, upds, offs, List.set_cons_zero, List.set_cons_succ]); (try rfl)) ?_
    obtain ⟨hi, hab⟩ := hJ
    refine AW.seq ?_
    refine AW.seq ?_
    refine AW.region ?_
    refine AL.rm ?_
    refine AL.rm ?_
    refine AL.r (rd_len_sl rfl el_50 rfl) ?_
    refine AL.r (rd_bin rfl rfl rfl (fun _ => rfl)) ?_
    refine AL.nil ?_
    change AW _ _ _ _ _
    refine AW.cd rfl (fun h26 => ?_) (fun h26 => ?_)
    ·skip
     refine AW.skip ?_
     change AW _ _ _ _ _
     refine AW.seq ?_
     refine AW.block ?_
     refine AW.seq ?_
     refine AW.region ?_
     refine AL.ra ?_
     refine AL.nil ?_
     change AW _ _ _ _ _
     refine AW.block ?_
     refine AW.loopM (ι := Nat) [6, 29, 30, 31, 32, 33, 34, 35, 36, 37, 38, 39, 40, 41, 42, 43, 44, 45, 46, 47] (fun k => [(8, AI (k : Int))]) [] (fun k => []) (fun k => k ≤ b.length ∧ ∀ y (hy : y < b.length), y < k → ¬ (a[i]'(by omega)).id.rep = b[y].id.rep) (fun k => b.length - k) 0 (⟨Nat.zero_le _, fun x _ hx => absurd hx (by omega)⟩) (by simp only [anys, upds, offs, List.set_cons_zero, List.set_cons_succ]; repeat (first | exact Wk.nil | refine Wk.same ?_ | refine Wk.any ?_)) (by simp only [anys, upds, offs, List.set_cons_zero, List.set_cons_succ]; repeat (first | exact Sk.nil _ | refine Sk.same _ ?_ | refine Sk.scr _ (by decide) ?_)) ?_
     rintro k gs hJ
     refine AW.norm (by simp only [anys, upds, offs, List.set_cons_zero, List.set_cons_succ]; rfl) (by (try simp only [anys, upds, offs, List.set_cons_zero, List.set_cons_succ]); (try rfl)) ?_
     obtain ⟨hk, hbk⟩ := hJ
     refine AW.seq ?_
     refine AW.seq ?_
     refine AW.region ?_
     refine AL.rm ?_
     refine AL.rm ?_
     refine AL.r (rd_len_sl rfl el_50 rfl) ?_
     refine AL.r (rd_bin rfl rfl rfl (fun _ => rfl)) ?_
     refine AL.nil ?_
     change AW _ _ _ _ _
     refine AW.cd rfl (fun h32 => ?_) (fun h32 => ?_)
     ·skip
      refine AW.skip ?_
      change AW _ _ _ _ _
      refine AW.seq ?_
      refine AW.block ?_
      refine AW.seq ?_
      refine AW.draw (by kernel_rfl) ?_
      refine AD.r 0 rfl (rd_move rfl rfl) rfl ?_
      refine AD.r 1 rfl (rd_move rfl rfl) rfl ?_
      refine AD.r 2 rfl (rd_iaddr_sl rfl el_50 rfl rfl rfl (get_mapA (by omega)) rfl) rfl ?_
      refine AD.r 3 rfl (rd_faddr_ep rfl fo_47_0 rfl) rfl ?_
      refine AD.r 4 rfl (rd_faddr_ep rfl fo_44_0 rfl) rfl ?_
      refine AD.r 5 rfl (rd_load_ep rfl ag_3 rfl rfl) rfl ?_
      refine AD.r 6 rfl (rd_move rfl rfl) rfl ?_
      refine AD.r 7 rfl (rd_move rfl rfl) rfl ?_
      refine AD.r 8 rfl (rd_iaddr_sl rfl el_50 rfl rfl rfl (get_mapA (by omega)) rfl) rfl ?_
      refine AD.r 9 rfl (rd_faddr_ep rfl fo_47_0 rfl) rfl ?_
      refine AD.r 10 rfl (rd_faddr_ep rfl fo_44_0 rfl) rfl ?_
      refine AD.r 11 rfl (rd_load_ep rfl ag_3 rfl rfl) rfl ?_
      refine AD.r 12 rfl (rd_bin rfl rfl rfl (fun _ => rfl)) rfl ?_
      refine AD.done (by kernel_rfl) ?_
      change AW _ _ _ _ _
      refine AW.cd rfl (fun h47 => ?_) (fun h47 => ?_)
      ·skip
       refine AW.seq ?_
       refine AW.region ?_
       refine AL.ra ?_
       refine AL.nil ?_
       change AW _ _ _ _ _
       refine AW.ret ?_
       change ResA _ _ _ _ _
       refine res1 rfl (ResV.tmp rfl) rfl ?_
       rfl
      ·skip
       refine AW.skip ?_
       change AW _ _ _ _ _
       refine AW.region ?_
       refine AL.rm ?_
       refine AL.r (rd_arith_add rfl rfl rfl (by first | exact IntWalk.i64_in _ (by omega) | rfl)) ?_
       refine AL.ra ?_
       refine AL.nil ?_
       refine ⟨k + 1, ?_, by first | omega | (simp only []; omega), ?_, ?_⟩
       ·exact ⟨by omega, all_nextL (p := fun (y : OpD) => ¬ (a[i]'(by omega)).id.rep = y.id.rep) (by omega) hbk h47⟩
       ·simp only [anys, upds, offs, List.set_cons_zero, List.set_cons_succ]; repeat (first | exact Wk.nil | refine Wk.same ?_ | refine Wk.any ?_)
       ·simp only [anys, upds, offs, List.set_cons_zero, List.set_cons_succ]; repeat (first | exact Sk.nil _ | refine Sk.same _ ?_ | refine Sk.scr _ (by decide) ?_)
     ·skip
      refine AW.exit ?_
      change AW _ _ _ _ _
      refine AW.region ?_
      refine AL.rm ?_
      refine AL.r (rd_arith_add rfl rfl rfl (by first | exact IntWalk.i64_in _ (by omega) | rfl)) ?_
      refine AL.ra ?_
      refine AL.nil ?_
      refine ⟨i + 1, ?_, by first | omega | (simp only []; omega), ?_, ?_⟩
      ·exact ⟨by omega, all_nextL (p := fun (x : OpD) => ∀ y ∈ b, x.id.rep ≠ y.id.rep) (by omega) hab (fun y hy => by obtain ⟨z, hz, rfl⟩ := List.getElem_of_mem hy; exact hbk z hz (by omega))⟩
      ·simp only [anys, upds, offs, List.set_cons_zero, List.set_cons_succ]; repeat (first | exact Wk.nil | refine Wk.same ?_ | refine Wk.any ?_)
      ·simp only [anys, upds, offs, List.set_cons_zero, List.set_cons_succ]; repeat (first | exact Sk.nil _ | refine Sk.same _ ?_ | refine Sk.scr _ (by decide) ?_)
    ·skip
     refine AW.exit ?_
     change AW _ _ _ _ _
     refine AW.seq ?_
     refine AW.region ?_
     have hun : ∀ x ∈ a, ∀ y ∈ b, x.id.rep ≠ y.id.rep := fun x hx => (by obtain ⟨z, hz, rfl⟩ := List.getElem_of_mem hx; exact hab z hz (by omega))
     refine AL.op rfl (calloQ (op_new 0) [0] ?_)
     rintro y os' ⟨rfl, rfl⟩
     refine AL.noQ ?_
     refine AL.op rfl (calloQ (op_new 0) [1] ?_)
     rintro y os' ⟨rfl, rfl⟩
     refine AL.noQ ?_
     refine AL.ra ?_
     refine AL.ra ?_
     refine AL.nil ?_
     change AW _ _ _ _ _
     refine AW.seq ?_
     refine AW.seq ?_
     refine AW.region ?_
     refine AL.ra ?_
     refine AL.nil ?_
     change AW _ _ _ _ _
     refine AW.block ?_
     refine AW.loopM (ι := Nat) [50, 51, 52, 53, 54, 55, 56, 57, 58, 59, 60, 61] (fun i => [(11, AI (i : Int))]) [] (fun i => [(0, ⟨1, .obj (PoolP (putsP newP (a.take i)))⟩)]) (fun i => i ≤ a.length) (fun i => a.length - i) 0 (Nat.zero_le _) (by simp only [anys, upds, offs, List.set_cons_zero, List.set_cons_succ]; repeat (first | exact Wk.nil | refine Wk.same ?_ | refine Wk.any ?_)) (by simp only [anys, upds, offs, List.set_cons_zero, List.set_cons_succ]; repeat (first | exact Sk.nil _ | refine Sk.same _ ?_ | refine Sk.scr _ (by decide) ?_)) ?_
     rintro i gs hJ
     refine AW.norm (by simp only [anys, upds, offs, List.set_cons_zero, List.set_cons_succ]; rfl) (by (try simp only [anys, upds, offs, List.set_cons_zero, List.set_cons_succ]); (try rfl)) ?_
     refine AW.seq ?_
     refine AW.seq ?_
     refine AW.region ?_
     refine AL.rm ?_
     refine AL.rm ?_
     refine AL.r (rd_len_sl rfl el_50 rfl) ?_
     refine AL.r (rd_bin rfl rfl rfl (fun _ => rfl)) ?_
     refine AL.nil ?_
     change AW _ _ _ _ _
     refine AW.cd rfl (fun h53 => ?_) (fun h53 => ?_)
     ·skip
      refine AW.skip ?_
      change AW _ _ _ _ _
      refine AW.seq ?_
      refine AW.block ?_
      refine AW.region ?_
      refine AL.rm ?_
      refine AL.rm ?_
      refine AL.rm ?_
      refine AL.r (rd_iaddr_sl rfl el_50 rfl rfl rfl (get_mapA (by omega)) rfl) ?_
      refine AL.r (rd_loadN_ep rfl ag_47 rfl (Nat.le_of_ble_eq_true rfl) rfl) ?_
      refine AL.op rfl (calloQ (op_put (okP_new.puts (a.take i)) 1 (a[i]'(by omega))) [0] ?_)
      rintro y os' ⟨rfl, rfl⟩
      refine AL.noQ ?_
      refine AL.nil ?_
      change AW _ _ _ _ _
      refine AW.region ?_
      refine AL.rm ?_
      refine AL.r (rd_arith_add rfl rfl rfl (by first | exact IntWalk.i64_in _ (by omega) | rfl)) ?_
      refine AL.ra ?_
      refine AL.nil ?_
      refine ⟨i + 1, ?_, by first | omega | (simp only []; omega), ?_, ?_⟩
      ·show i + 1 ≤ a.length; omega
      ·simp only [anys, upds, offs, List.set_cons_zero, List.set_cons_succ]; repeat (first | exact Wk.nil | refine Wk.same ?_ | refine Wk.any ?_)
      ·simp only [anys, upds, offs, List.set_cons_zero, List.set_cons_succ]; repeat (first | exact Sk.nil _ | refine Sk.same _ ?_ | refine Sk.scr _ (by decide) ?_ | refine Sk.eq _ (by rw [row_next (by omega)]) ?_)
     ·skip
      refine AW.exit ?_
      change AW _ _ _ _ _
      refine AW.seq ?_
      refine AW.seq ?_
      refine AW.region ?_
      have hia : a.take i = a := List.take_of_length_le (by omega); clear hJ
      rw [hia]
      refine AL.ra ?_
      refine AL.nil ?_
      change AW _ _ _ _ _
      refine AW.block ?_
      refine AW.loopM (ι := Nat) [62, 63, 64, 65, 66, 67, 68, 69, 70, 71, 72, 73] (fun k => [(12, AI (k : Int))]) [] (fun k => [(0, ⟨1, .obj (PoolP (putsP (putsP newP a) (b.take k)))⟩)]) (fun k => k ≤ b.length) (fun k => b.length - k) 0 (Nat.zero_le _) (by simp only [anys, upds, offs, List.set_cons_zero, List.set_cons_succ]; repeat (first | exact Wk.nil | refine Wk.same ?_ | refine Wk.any ?_)) (by simp only [anys, upds, offs, List.set_cons_zero, List.set_cons_succ]; repeat (first | exact Sk.nil _ | refine Sk.same _ ?_ | refine Sk.scr _ (by decide) ?_)) ?_
      rintro k gs hJ
      refine AW.norm (by simp only [anys, upds, offs, List.set_cons_zero, List.set_cons_succ]; rfl) (by (try simp only [anys, upds, offs, List.set_cons_zero, List.set_cons_succ]); (try rfl)) ?_
      refine AW.seq ?_
      refine AW.seq ?_
      refine AW.region ?_
      refine AL.rm ?_
      refine AL.rm ?_
      refine AL.r (rd_len_sl rfl el_50 rfl) ?_
      refine AL.r (rd_bin rfl rfl rfl (fun _ => rfl)) ?_
      refine AL.nil ?_
      change AW _ _ _ _ _
      refine AW.cd rfl (fun h65 => ?_) (fun h65 => ?_)
      ·skip
       refine AW.skip ?_
       change AW _ _ _ _ _
       refine AW.seq ?_
       refine AW.block ?_
       refine AW.region ?_
       refine AL.rm ?_
       refine AL.rm ?_
       refine AL.rm ?_
       refine AL.r (rd_iaddr_sl rfl el_50 rfl rfl rfl (get_mapA (by omega)) rfl) ?_
       refine AL.r (rd_loadN_ep rfl ag_47 rfl (Nat.le_of_ble_eq_true rfl) rfl) ?_
       refine AL.op rfl (calloQ (op_put ((okP_new.puts a).puts (b.take k)) 1 (b[k]'(by omega))) [0] ?_)
       rintro y os' ⟨rfl, rfl⟩
       refine AL.noQ ?_
       refine AL.nil ?_
       change AW _ _ _ _ _
       refine AW.region ?_
       refine AL.rm ?_
       refine AL.r (rd_arith_add rfl rfl rfl (by first | exact IntWalk.i64_in _ (by omega) | rfl)) ?_
       refine AL.ra ?_
       refine AL.nil ?_
       refine ⟨k + 1, ?_, by first | omega | (simp only []; omega), ?_, ?_⟩
       ·show k + 1 ≤ b.length; omega
       ·simp only [anys, upds, offs, List.set_cons_zero, List.set_cons_succ]; repeat (first | exact Wk.nil | refine Wk.same ?_ | refine Wk.any ?_)
       ·simp only [anys, upds, offs, List.set_cons_zero, List.set_cons_succ]; repeat (first | exact Sk.nil _ | refine Sk.same _ ?_ | refine Sk.scr _ (by decide) ?_ | refine Sk.eq _ (by rw [row_next (by omega)]) ?_)
      ·skip
       refine AW.exit ?_
       change AW _ _ _ _ _
       refine AW.seq ?_
       refine AW.region ?_
       have hkb : b.take k = b := List.take_of_length_le (by omega); clear hJ
       rw [hkb]
       refine AL.ra ?_
       refine AL.ra ?_
       refine AL.nil ?_
       change AW _ _ _ _ _
       refine AW.seq ?_
       refine AW.block ?_
       refine AW.loopM (ι := Nat × Nat × Nat) [74, 75, 76, 77, 78, 79, 80, 81, 82, 83, 84, 85, 86, 87, 88, 89, 90, 91, 92, 93, 94, 95, 96, 97, 98, 99, 100, 101, 102, 103, 104, 105, 106, 107, 108, 109, 110, 111, 112, 113, 114, 115, 116] (fun ⟨x, y, u⟩ => [(13, AI (x : Int)), (14, AI (y : Int)), (2, .sc (.int .u64 (u : Int)))]) [] (fun ⟨x, y, u⟩ => [(1, ⟨1, .obj (PoolP (putsP newP (a.take x ++ b.take y)))⟩)]) (fun ⟨x, y, u⟩ => x ≤ a.length ∧ y ≤ b.length) (fun ⟨x, y, u⟩ => a.length - x + (b.length - y)) ⟨0, 0, tn⟩ (⟨Nat.zero_le _, Nat.zero_le _⟩) (by simp only [anys, upds, offs, List.set_cons_zero, List.set_cons_succ]; repeat (first | exact Wk.nil | refine Wk.same ?_ | refine Wk.any ?_)) (by simp only [anys, upds, offs, List.set_cons_zero, List.set_cons_succ]; repeat (first | exact Sk.nil _ | refine Sk.same _ ?_ | refine Sk.scr _ (by decide) ?_)) ?_
       rintro ⟨x, y, u⟩ gs hJ
       refine AW.norm (by simp only [anys, upds, offs, List.set_cons_zero, List.set_cons_succ]; rfl) (by (try simp only [anys, upds, offs, List.set_cons_zero, List.set_cons_succ]); (try rfl)) ?_
       obtain ⟨hx, hy⟩ := hJ
       refine AW.seq ?_
       refine AW.seq ?_
       refine AW.region ?_
       refine AL.rm ?_
       refine AL.rm ?_
       refine AL.r (rd_len_sl rfl el_50 rfl) ?_
       refine AL.r (rd_bin rfl rfl rfl (fun _ => rfl)) ?_
       refine AL.rm ?_
       refine AL.fk (d := 78) rfl (fun h78 => ?_) (fun h78 => ?_)
       ·skip
        refine AL.n ?_
        refine AL.rf ?_
        refine AL.rf ?_
        refine AL.rf ?_
        refine AL.rf ?_
        refine AL.r (rd_pick_t rfl rfl rfl) ?_
        refine AL.nil ?_
        change AW _ _ _ _ _
        refine AW.cond_t rfl ?_
        refine AW.skip ?_
        change AW _ _ _ _ _
        refine AW.block ?_
        refine AW.seq ?_
        refine AW.seq ?_
        refine AW.region ?_
        refine AL.rm ?_
        refine AL.rm ?_
        refine AL.r (rd_len_sl rfl el_50 rfl) ?_
        refine AL.r (rd_bin rfl rfl rfl (fun _ => rfl)) ?_
        refine AL.rm ?_
        refine AL.fk (d := 88) rfl (fun h88 => ?_) (fun h88 => ?_)
        ·skip
         refine AL.n ?_
         refine AL.ro (rd_move rfl rfl) ?_
         refine AL.ro (rd_rem (c := 2) rfl rfl rfl rfl rfl (by omega)) ?_
         refine AL.ro (rd_bin rfl rfl rfl (fun _ => rfl)) ?_
         refine AL.ro (rd_move rfl rfl) ?_
         refine AL.fk (d := 92) rfl (fun h92 => ?_) (fun h92 => ?_)
         ·skip
          refine AL.n ?_
          refine AL.rf ?_
          refine AL.rf ?_
          refine AL.rf ?_
          refine AL.rf ?_
          refine AL.ro (rd_pick_t rfl rfl rfl) ?_
          refine AL.r (rd_pick_t rfl rfl rfl) ?_
          refine AL.nil ?_
          change AW _ _ _ _ _
          refine AW.cond_t rfl ?_
          refine AW.seq ?_
          refine AW.region ?_
          refine AL.rm ?_
          refine AL.rm ?_
          refine AL.rm ?_
          refine AL.r (rd_iaddr_sl rfl el_50 rfl rfl rfl (get_mapA (by omega)) rfl) ?_
          refine AL.r (rd_loadN_ep rfl ag_47 rfl (Nat.le_of_ble_eq_true rfl) rfl) ?_
          refine AL.op rfl (calloQ (op_put (okP_new.puts (a.take x ++ b.take y)) 1 (a[x]'(by omega))) [1] ?_)
          rintro y os' ⟨rfl, rfl⟩
          refine AL.noQ ?_
          refine AL.nil ?_
          change AW _ _ _ _ _
          refine AW.region ?_
          refine AL.rm ?_
          refine AL.r (rd_arith_add rfl rfl rfl (by first | exact IntWalk.i64_in _ (by omega) | rfl)) ?_
          refine AL.ra ?_
          refine AL.nil ?_
          change AW _ _ _ _ _
          refine AW.region ?_
          refine AL.rm ?_
          refine AL.r (rd_shr (c := 1) rfl rfl rfl rfl rfl (by decide) (show _ / 2 ^ 1 = _ / 2 from rfl)) ?_
          refine AL.ra ?_
          refine AL.nil ?_
          first
            | refine ⟨⟨x + 1, y, u / 2⟩, ?_, ?_, ?_, ?_⟩
              ·exact ⟨by show x + 1 ≤ a.length; omega, hy⟩
              ·first | omega | (simp only []; omega)
              ·simp only [anys, upds, offs, List.set_cons_zero, List.set_cons_succ]; repeat (first | exact Wk.nil | refine Wk.same ?_ | refine Wk.any ?_)
              ·simp only [anys, upds, offs, List.set_cons_zero, List.set_cons_succ]; repeat (first | exact Sk.nil _ | refine Sk.same _ ?_ | refine Sk.scr _ (by decide) ?_ | refine Sk.eq _ (by first | rw [turn_a hun (by omega) (by omega)] | rw [turn_b (by omega)]) ?_)
            | refine ⟨⟨x, y + 1, u / 2⟩, ?_, ?_, ?_, ?_⟩
              ·exact ⟨hx, by show y + 1 ≤ b.length; omega⟩
              ·first | omega | (simp only []; omega)
              ·simp only [anys, upds, offs, List.set_cons_zero, List.set_cons_succ]; repeat (first | exact Wk.nil | refine Wk.same ?_ | refine Wk.any ?_)
              ·simp only [anys, upds, offs, List.set_cons_zero, List.set_cons_succ]; repeat (first | exact Sk.nil _ | refine Sk.same _ ?_ | refine Sk.scr _ (by decide) ?_ | refine Sk.eq _ (by first | rw [turn_a hun (by omega) (by omega)] | rw [turn_b (by omega)]) ?_)
         ·skip
          refine AL.n ?_
          refine AL.ro (rd_move rfl rfl) ?_
          refine AL.ro (rd_move rfl rfl) ?_
          refine AL.ro (rd_len_sl rfl el_50 rfl) ?_
          refine AL.ro (rd_bin rfl rfl rfl (fun _ => rfl)) ?_
          refine AL.ro (rd_pick_f rfl rfl rfl) ?_
          refine AL.r (rd_pick_t rfl rfl rfl) ?_
          refine AL.nil ?_
          change AW _ _ _ _ _
          refine AW.cd rfl (fun h98 => ?_) (fun h98 => ?_)
          ·skip
           refine AW.seq ?_
           refine AW.region ?_
           refine AL.rm ?_
           refine AL.rm ?_
           refine AL.rm ?_
           refine AL.r (rd_iaddr_sl rfl el_50 rfl rfl rfl (get_mapA (by omega)) rfl) ?_
           refine AL.r (rd_loadN_ep rfl ag_47 rfl (Nat.le_of_ble_eq_true rfl) rfl) ?_
           refine AL.op rfl (calloQ (op_put (okP_new.puts (a.take x ++ b.take y)) 1 (a[x]'(by omega))) [1] ?_)
           rintro y os' ⟨rfl, rfl⟩
           refine AL.noQ ?_
           refine AL.nil ?_
           change AW _ _ _ _ _
           refine AW.region ?_
           refine AL.rm ?_
           refine AL.r (rd_arith_add rfl rfl rfl (by first | exact IntWalk.i64_in _ (by omega) | rfl)) ?_
           refine AL.ra ?_
           refine AL.nil ?_
           change AW _ _ _ _ _
           refine AW.region ?_
           refine AL.rm ?_
           refine AL.r (rd_shr (c := 1) rfl rfl rfl rfl rfl (by decide) (show _ / 2 ^ 1 = _ / 2 from rfl)) ?_
           refine AL.ra ?_
           refine AL.nil ?_
           first
             | refine ⟨⟨x + 1, y, u / 2⟩, ?_, ?_, ?_, ?_⟩
               ·exact ⟨by show x + 1 ≤ a.length; omega, hy⟩
               ·first | omega | (simp only []; omega)
               ·simp only [anys, upds, offs, List.set_cons_zero, List.set_cons_succ]; repeat (first | exact Wk.nil | refine Wk.same ?_ | refine Wk.any ?_)
               ·simp only [anys, upds, offs, List.set_cons_zero, List.set_cons_succ]; repeat (first | exact Sk.nil _ | refine Sk.same _ ?_ | refine Sk.scr _ (by decide) ?_ | refine Sk.eq _ (by first | rw [turn_a hun (by omega) (by omega)] | rw [turn_b (by omega)]) ?_)
             | refine ⟨⟨x, y + 1, u / 2⟩, ?_, ?_, ?_, ?_⟩
               ·exact ⟨hx, by show y + 1 ≤ b.length; omega⟩
               ·first | omega | (simp only []; omega)
               ·simp only [anys, upds, offs, List.set_cons_zero, List.set_cons_succ]; repeat (first | exact Wk.nil | refine Wk.same ?_ | refine Wk.any ?_)
               ·simp only [anys, upds, offs, List.set_cons_zero, List.set_cons_succ]; repeat (first | exact Sk.nil _ | refine Sk.same _ ?_ | refine Sk.scr _ (by decide) ?_ | refine Sk.eq _ (by first | rw [turn_a hun (by omega) (by omega)] | rw [turn_b (by omega)]) ?_)
          ·skip
           refine AW.seq ?_
           refine AW.region ?_
           refine AL.rm ?_
           refine AL.rm ?_
           refine AL.rm ?_
           refine AL.r (rd_iaddr_sl rfl el_50 rfl rfl rfl (get_mapA (by omega)) rfl) ?_
           refine AL.r (rd_loadN_ep rfl ag_47 rfl (Nat.le_of_ble_eq_true rfl) rfl) ?_
           refine AL.op rfl (calloQ (op_put (okP_new.puts (a.take x ++ b.take y)) 1 (b[y]'(by omega))) [1] ?_)
           rintro y os' ⟨rfl, rfl⟩
           refine AL.noQ ?_
           refine AL.nil ?_
           change AW _ _ _ _ _
           refine AW.region ?_
           refine AL.rm ?_
           refine AL.r (rd_arith_add rfl rfl rfl (by first | exact IntWalk.i64_in _ (by omega) | rfl)) ?_
           refine AL.ra ?_
           refine AL.nil ?_
           change AW _ _ _ _ _
           refine AW.region ?_
           refine AL.rm ?_
           refine AL.r (rd_shr (c := 1) rfl rfl rfl rfl rfl (by decide) (show _ / 2 ^ 1 = _ / 2 from rfl)) ?_
           refine AL.ra ?_
           refine AL.nil ?_
           refine ⟨⟨x, y + 1, u / 2⟩, ?_, by first | omega | (simp only []; omega), ?_, ?_⟩
           ·exact ⟨hx, by show y + 1 ≤ b.length; omega⟩
           ·simp only [anys, upds, offs, List.set_cons_zero, List.set_cons_succ]; repeat (first | exact Wk.nil | refine Wk.same ?_ | refine Wk.any ?_)
           ·simp only [anys, upds, offs, List.set_cons_zero, List.set_cons_succ]; repeat (first | exact Sk.nil _ | refine Sk.same _ ?_ | refine Sk.scr _ (by decide) ?_ | refine Sk.eq _ (by first | rw [turn_a hun (by omega) (by omega)] | rw [turn_b (by omega)]) ?_)
        ·skip
         refine AL.n ?_
         refine AL.rf ?_
         refine AL.rf ?_
         refine AL.rf ?_
         refine AL.rf ?_
         refine AL.ru ?_
         refine AL.ru ?_
         refine AL.ru ?_
         refine AL.ru ?_
         refine AL.rf ?_
         refine AL.r (rd_pick_f rfl rfl rfl) ?_
         refine AL.nil ?_
         change AW _ _ _ _ _
         refine AW.cond_f rfl ?_
         refine AW.seq ?_
         refine AW.region ?_
         refine AL.rm ?_
         refine AL.rm ?_
         refine AL.rm ?_
         refine AL.r (rd_iaddr_sl rfl el_50 rfl rfl rfl (get_mapA (by omega)) rfl) ?_
         refine AL.r (rd_loadN_ep rfl ag_47 rfl (Nat.le_of_ble_eq_true rfl) rfl) ?_
         refine AL.op rfl (calloQ (op_put (okP_new.puts (a.take x ++ b.take y)) 1 (b[y]'(by omega))) [1] ?_)
         rintro y os' ⟨rfl, rfl⟩
         refine AL.noQ ?_
         refine AL.nil ?_
         change AW _ _ _ _ _
         refine AW.region ?_
         refine AL.rm ?_
         refine AL.r (rd_arith_add rfl rfl rfl (by first | exact IntWalk.i64_in _ (by omega) | rfl)) ?_
         refine AL.ra ?_
         refine AL.nil ?_
         change AW _ _ _ _ _
         refine AW.region ?_
         refine AL.rm ?_
         refine AL.r (rd_shr (c := 1) rfl rfl rfl rfl rfl (by decide) (show _ / 2 ^ 1 = _ / 2 from rfl)) ?_
         refine AL.ra ?_
         refine AL.nil ?_
         refine ⟨⟨x, y + 1, u / 2⟩, ?_, by first | omega | (simp only []; omega), ?_, ?_⟩
         ·exact ⟨hx, by show y + 1 ≤ b.length; omega⟩
         ·simp only [anys, upds, offs, List.set_cons_zero, List.set_cons_succ]; repeat (first | exact Wk.nil | refine Wk.same ?_ | refine Wk.any ?_)
         ·simp only [anys, upds, offs, List.set_cons_zero, List.set_cons_succ]; repeat (first | exact Sk.nil _ | refine Sk.same _ ?_ | refine Sk.scr _ (by decide) ?_ | refine Sk.eq _ (by first | rw [turn_a hun (by omega) (by omega)] | rw [turn_b (by omega)]) ?_)
       ·skip
        refine AL.n ?_
        refine AL.ro (rd_move rfl rfl) ?_
        refine AL.ro (rd_move rfl rfl) ?_
        refine AL.ro (rd_len_sl rfl el_50 rfl) ?_
        refine AL.ro (rd_bin rfl rfl rfl (fun _ => rfl)) ?_
        refine AL.r (rd_pick_f rfl rfl rfl) ?_
        refine AL.nil ?_
        change AW _ _ _ _ _
        refine AW.cd rfl (fun h83 => ?_) (fun h83 => ?_)
        ·skip
         refine AW.skip ?_
         change AW _ _ _ _ _
         refine AW.block ?_
         refine AW.seq ?_
         refine AW.seq ?_
         refine AW.region ?_
         refine AL.rm ?_
         refine AL.rm ?_
         refine AL.r (rd_len_sl rfl el_50 rfl) ?_
         refine AL.r (rd_bin rfl rfl rfl (fun _ => rfl)) ?_
         refine AL.rm ?_
         refine AL.fk (d := 88) rfl (fun h88 => ?_) (fun h88 => ?_)
         ·skip
          refine AL.n ?_
          refine AL.ro (rd_move rfl rfl) ?_
          refine AL.ro (rd_rem (c := 2) rfl rfl rfl rfl rfl (by omega)) ?_
          refine AL.ro (rd_bin rfl rfl rfl (fun _ => rfl)) ?_
          refine AL.ro (rd_move rfl rfl) ?_
          refine AL.fk (d := 92) rfl (fun h92 => ?_) (fun h92 => ?_)
          ·skip
           refine AL.n ?_
           refine AL.rf ?_
           refine AL.rf ?_
           refine AL.rf ?_
           refine AL.rf ?_
           refine AL.ro (rd_pick_t rfl rfl rfl) ?_
           refine AL.r (rd_pick_t rfl rfl rfl) ?_
           refine AL.nil ?_
           change AW _ _ _ _ _
           refine AW.cond_t rfl ?_
           refine AW.seq ?_
           refine AW.region ?_
           refine AL.rm ?_
           refine AL.rm ?_
           refine AL.rm ?_
           refine AL.r (rd_iaddr_sl rfl el_50 rfl rfl rfl (get_mapA (by omega)) rfl) ?_
           refine AL.r (rd_loadN_ep rfl ag_47 rfl (Nat.le_of_ble_eq_true rfl) rfl) ?_
           refine AL.op rfl (calloQ (op_put (okP_new.puts (a.take x ++ b.take y)) 1 (a[x]'(by omega))) [1] ?_)
           rintro y os' ⟨rfl, rfl⟩
           refine AL.noQ ?_
           refine AL.nil ?_
           change AW _ _ _ _ _
           refine AW.region ?_
           refine AL.rm ?_
           refine AL.r (rd_arith_add rfl rfl rfl (by first | exact IntWalk.i64_in _ (by omega) | rfl)) ?_
           refine AL.ra ?_
           refine AL.nil ?_
           change AW _ _ _ _ _
           refine AW.region ?_
           refine AL.rm ?_
           refine AL.r (rd_shr (c := 1) rfl rfl rfl rfl rfl (by decide) (show _ / 2 ^ 1 = _ / 2 from rfl)) ?_
           refine AL.ra ?_
           refine AL.nil ?_
           first
             | refine ⟨⟨x + 1, y, u / 2⟩, ?_, ?_, ?_, ?_⟩
               ·exact ⟨by show x + 1 ≤ a.length; omega, hy⟩
               ·first | omega | (simp only []; omega)
               ·simp only [anys, upds, offs, List.set_cons_zero, List.set_cons_succ]; repeat (first | exact Wk.nil | refine Wk.same ?_ | refine Wk.any ?_)
               ·simp only [anys, upds, offs, List.set_cons_zero, List.set_cons_succ]; repeat (first | exact Sk.nil _ | refine Sk.same _ ?_ | refine Sk.scr _ (by decide) ?_ | refine Sk.eq _ (by first | rw [turn_a hun (by omega) (by omega)] | rw [turn_b (by omega)]) ?_)
             | refine ⟨⟨x, y + 1, u / 2⟩, ?_, ?_, ?_, ?_⟩
               ·exact ⟨hx, by show y + 1 ≤ b.length; omega⟩
               ·first | omega | (simp only []; omega)
               ·simp only [anys, upds, offs, List.set_cons_zero, List.set_cons_succ]; repeat (first | exact Wk.nil | refine Wk.same ?_ | refine Wk.any ?_)
               ·simp only [anys, upds, offs, List.set_cons_zero, List.set_cons_succ]; repeat (first | exact Sk.nil _ | refine Sk.same _ ?_ | refine Sk.scr _ (by decide) ?_ | refine Sk.eq _ (by first | rw [turn_a hun (by omega) (by omega)] | rw [turn_b (by omega)]) ?_)
          ·skip
           refine AL.n ?_
           refine AL.ro (rd_move rfl rfl) ?_
           refine AL.ro (rd_move rfl rfl) ?_
           refine AL.ro (rd_len_sl rfl el_50 rfl) ?_
           refine AL.ro (rd_bin rfl rfl rfl (fun _ => rfl)) ?_
           refine AL.ro (rd_pick_f rfl rfl rfl) ?_
           refine AL.r (rd_pick_t rfl rfl rfl) ?_
           refine AL.nil ?_
           change AW _ _ _ _ _
           refine AW.cd rfl (fun h98 => ?_) (fun h98 => ?_)
           ·skip
            refine AW.seq ?_
            refine AW.region ?_
            refine AL.rm ?_
            refine AL.rm ?_
            refine AL.rm ?_
            refine AL.r (rd_iaddr_sl rfl el_50 rfl rfl rfl (get_mapA (by omega)) rfl) ?_
            refine AL.r (rd_loadN_ep rfl ag_47 rfl (Nat.le_of_ble_eq_true rfl) rfl) ?_
            refine AL.op rfl (calloQ (op_put (okP_new.puts (a.take x ++ b.take y)) 1 (a[x]'(by omega))) [1] ?_)
            rintro y os' ⟨rfl, rfl⟩
            refine AL.noQ ?_
            refine AL.nil ?_
            change AW _ _ _ _ _
            refine AW.region ?_
            refine AL.rm ?_
            refine AL.r (rd_arith_add rfl rfl rfl (by first | exact IntWalk.i64_in _ (by omega) | rfl)) ?_
            refine AL.ra ?_
            refine AL.nil ?_
            change AW _ _ _ _ _
            refine AW.region ?_
            refine AL.rm ?_
            refine AL.r (rd_shr (c := 1) rfl rfl rfl rfl rfl (by decide) (show _ / 2 ^ 1 = _ / 2 from rfl)) ?_
            refine AL.ra ?_
            refine AL.nil ?_
            first
              | refine ⟨⟨x + 1, y, u / 2⟩, ?_, ?_, ?_, ?_⟩
                ·exact ⟨by show x + 1 ≤ a.length; omega, hy⟩
                ·first | omega | (simp only []; omega)
                ·simp only [anys, upds, offs, List.set_cons_zero, List.set_cons_succ]; repeat (first | exact Wk.nil | refine Wk.same ?_ | refine Wk.any ?_)
                ·simp only [anys, upds, offs, List.set_cons_zero, List.set_cons_succ]; repeat (first | exact Sk.nil _ | refine Sk.same _ ?_ | refine Sk.scr _ (by decide) ?_ | refine Sk.eq _ (by first | rw [turn_a hun (by omega) (by omega)] | rw [turn_b (by omega)]) ?_)
              | refine ⟨⟨x, y + 1, u / 2⟩, ?_, ?_, ?_, ?_⟩
                ·exact ⟨hx, by show y + 1 ≤ b.length; omega⟩
                ·first | omega | (simp only []; omega)
                ·simp only [anys, upds, offs, List.set_cons_zero, List.set_cons_succ]; repeat (first | exact Wk.nil | refine Wk.same ?_ | refine Wk.any ?_)
                ·simp only [anys, upds, offs, List.set_cons_zero, List.set_cons_succ]; repeat (first | exact Sk.nil _ | refine Sk.same _ ?_ | refine Sk.scr _ (by decide) ?_ | refine Sk.eq _ (by first | rw [turn_a hun (by omega) (by omega)] | rw [turn_b (by omega)]) ?_)
           ·skip
            refine AW.seq ?_
            refine AW.region ?_
            refine AL.rm ?_
            refine AL.rm ?_
            refine AL.rm ?_
            refine AL.r (rd_iaddr_sl rfl el_50 rfl rfl rfl (get_mapA (by omega)) rfl) ?_
            refine AL.r (rd_loadN_ep rfl ag_47 rfl (Nat.le_of_ble_eq_true rfl) rfl) ?_
            refine AL.op rfl (calloQ (op_put (okP_new.puts (a.take x ++ b.take y)) 1 (b[y]'(by omega))) [1] ?_)
            rintro y os' ⟨rfl, rfl⟩
            refine AL.noQ ?_
            refine AL.nil ?_
            change AW _ _ _ _ _
            refine AW.region ?_
            refine AL.rm ?_
            refine AL.r (rd_arith_add rfl rfl rfl (by first | exact IntWalk.i64_in _ (by omega) | rfl)) ?_
            refine AL.ra ?_
            refine AL.nil ?_
            change AW _ _ _ _ _
            refine AW.region ?_
            refine AL.rm ?_
            refine AL.r (rd_shr (c := 1) rfl rfl rfl rfl rfl (by decide) (show _ / 2 ^ 1 = _ / 2 from rfl)) ?_
            refine AL.ra ?_
            refine AL.nil ?_
            refine ⟨⟨x, y + 1, u / 2⟩, ?_, by first | omega | (simp only []; omega), ?_, ?_⟩
            ·exact ⟨hx, by show y + 1 ≤ b.length; omega⟩
            ·simp only [anys, upds, offs, List.set_cons_zero, List.set_cons_succ]; repeat (first | exact Wk.nil | refine Wk.same ?_ | refine Wk.any ?_)
            ·simp only [anys, upds, offs, List.set_cons_zero, List.set_cons_succ]; repeat (first | exact Sk.nil _ | refine Sk.same _ ?_ | refine Sk.scr _ (by decide) ?_ | refine Sk.eq _ (by first | rw [turn_a hun (by omega) (by omega)] | rw [turn_b (by omega)]) ?_)
         ·skip
          refine AL.n ?_
          refine AL.rf ?_
          refine AL.rf ?_
          refine AL.rf ?_
          refine AL.rf ?_
          refine AL.ru ?_
          refine AL.ru ?_
          refine AL.ru ?_
          refine AL.ru ?_
          refine AL.rf ?_
          refine AL.r (rd_pick_f rfl rfl rfl) ?_
          refine AL.nil ?_
          change AW _ _ _ _ _
          refine AW.cond_f rfl ?_
          refine AW.seq ?_
          refine AW.region ?_
          refine AL.rm ?_
          refine AL.rm ?_
          refine AL.rm ?_
          refine AL.r (rd_iaddr_sl rfl el_50 rfl rfl rfl (get_mapA (by omega)) rfl) ?_
          refine AL.r (rd_loadN_ep rfl ag_47 rfl (Nat.le_of_ble_eq_true rfl) rfl) ?_
          refine AL.op rfl (calloQ (op_put (okP_new.puts (a.take x ++ b.take y)) 1 (b[y]'(by omega))) [1] ?_)
          rintro y os' ⟨rfl, rfl⟩
          refine AL.noQ ?_
          refine AL.nil ?_
          change AW _ _ _ _ _
          refine AW.region ?_
          refine AL.rm ?_
          refine AL.r (rd_arith_add rfl rfl rfl (by first | exact IntWalk.i64_in _ (by omega) | rfl)) ?_
          refine AL.ra ?_
          refine AL.nil ?_
          change AW _ _ _ _ _
          refine AW.region ?_
          refine AL.rm ?_
          refine AL.r (rd_shr (c := 1) rfl rfl rfl rfl rfl (by decide) (show _ / 2 ^ 1 = _ / 2 from rfl)) ?_
          refine AL.ra ?_
          refine AL.nil ?_
          refine ⟨⟨x, y + 1, u / 2⟩, ?_, by first | omega | (simp only []; omega), ?_, ?_⟩
          ·exact ⟨hx, by show y + 1 ≤ b.length; omega⟩
          ·simp only [anys, upds, offs, List.set_cons_zero, List.set_cons_succ]; repeat (first | exact Wk.nil | refine Wk.same ?_ | refine Wk.any ?_)
          ·simp only [anys, upds, offs, List.set_cons_zero, List.set_cons_succ]; repeat (first | exact Sk.nil _ | refine Sk.same _ ?_ | refine Sk.scr _ (by decide) ?_ | refine Sk.eq _ (by first | rw [turn_a hun (by omega) (by omega)] | rw [turn_b (by omega)]) ?_)
        ·skip
         refine AW.exit ?_
         change AW _ _ _ _ _
         refine AW.seq ?_
         refine AW.region ?_
         have e1 : a.take x = a := List.take_of_length_le (by omega)
         have e2 : b.take y = b := List.take_of_length_le (by omega)
         have e3 : putsP newP (a ++ b) = putsP (putsP newP a) b := (by unfold putsP; rw [List.foldl_append])
         rw [e1, e2, e3]
         refine AL.rm ?_
         refine AL.op rfl (calloQ (op_ops ((okP_new.puts a).puts b) 1) [0] ?_)
         rintro y os' ⟨rfl, rfl⟩
         refine AL.noQ ?_
         refine AL.rm ?_
         refine AL.op rfl (calloQ (op_ops ((okP_new.puts a).puts b) 1) [1] ?_)
         rintro y os' ⟨rfl, rfl⟩
         refine AL.noQ ?_
         refine AL.op rfl (AOpB.op (op_call (sameops_t rfl) rfl (by kernel_rfl) rfl (none) ?_))
         rintro r rfl
         refine AL.no ?_
         refine AL.rm ?_
         refine AL.ro (rd_move rfl rfl) ?_
         refine AL.on rfl rfl rfl (calloQ (op_have (p := putsP (putsP newP a) b) 1) [0] ?_)
         rintro y os' ⟨rfl, rfl⟩
         refine AL.noQ ?_
         refine AL.ro (rd_move rfl rfl) ?_
         refine AL.on rfl rfl rfl (calloQ (op_have (p := putsP (putsP newP a) b) 1) [1] ?_)
         rintro y os' ⟨rfl, rfl⟩
         refine AL.noQ ?_
         refine AL.ro (rd_eq_Vector rfl rfl rfl) ?_
         refine AL.r (rd_pick_t rfl rfl rfl) ?_
         refine AL.ra ?_
         refine AL.nil ?_
         change AW _ _ _ _ _
         refine AW.ret ?_
         change ResA _ _ _ _ _
         refine res1 rfl (ResV.tmp rfl) rfl ?_
         simp
theorem walk_PoolOrders (w : World) (v0 : Value) (l0 : List OpD) (rp0 : RepS AnyB w v0 (.sl (l0.map OpD.cs))) (v1 : Value) (l1 : List OpD) (rp1 : RepS AnyB w v1 (.sl (l1.map OpD.cs))) (a2 : Int) (w2 : (Lit.int .u64 a2).wf = true) :
    Calls Try.prog 6 #[v0, v1, .int .u64 a2] w fun e w' => e = .returned (.bool true) ∧ Below w.heap.size w w' := by
  have hb := bounds_u64 w2
  obtain ⟨mo, rfl⟩ : ∃ m : Nat, a2 = (m : Int) := ⟨a2.toNat, by omega⟩
  exact (porders_c l0 l1 mo).law (vs := [v0, v1, .int .u64 (mo : Int)]) rfl (rep_cons rp0 (rep_cons rp1 (rep_cons (.sc _) rep_nil)))
end Go.Proofs.Ytfjnkhanndkpfaa
