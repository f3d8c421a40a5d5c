/- The law SlotsReads, walked over abstract states. -/
import Derived.Test.YtgjpeldgjpgbcaaSltI
import Derived.Test.YtgjpeldgjpgbcaaJa
namespace Go.Proofs.Ytgjpeldgjpgbcaa
set_option linter.unusedSimpArgs false
set_option linter.unusedVariables false
set_option maxRecDepth 100000
open Go.RowKit

section
variable (room : Int) (a b : List UInt8)
def vD1 : DiskD := appDi (newD room) 0 a
def vD2 : DiskD := appDi (vD1 room a) 1 b
def vD3 : DiskD := syncD (vD2 room a b)
variable (hr : 1 ≤ room ∧ room ≤ 200000) (hs : ((a.length + b.length : Nat) : Int) ≤ room)
include hr hs
theorem vD_ok : (vD1 room a).Ok 1 ∧ appRi (newD room) 0 a = 0 ∧ (vD2 room a b).Ok 2 ∧ appRi (vD1 room a) 1 b = 0 ∧ syncR (vD2 room a b) = 0 ∧ Rest room 2 (two a b) (vD3 room a b) ∧ (vD3 room a b).fused = false := by
  have h1 := (gro_new (R := room) hr).app (f := 0) (by omega) (b := a) (by simp [tot]; omega)
  have d1 : (vD1 room a).dark = false := (appD_dark rfl _ _).trans rfl
  have f1 : (vD1 room a).fused = false := (appD_fused _ _).trans rfl
  have h2 := h1.1.app (f := 1) (by omega) (b := b) (by simp [tot, upd]; omega)
  have d2 : (vD2 room a b).dark = false := (appD_dark f1 _ _).trans d1
  have f2 : (vD2 room a b).fused = false := (appD_fused _ _).trans f1
  have r1 : appRi (newD room) 0 a = 0 := by
    rcases h1.2.2 rfl with ⟨h, _⟩ | ⟨_, h⟩
    · exact h
    · have : (vD1 room a).dark = true := h
      rw [d1] at this; cases this
  have r2 : appRi (vD1 room a) 1 b = 0 := by
    rcases h2.2.2 d1 with ⟨h, _⟩ | ⟨_, h⟩
    · exact h
    · have : (vD2 room a b).dark = true := h
      rw [d2] at this; cases this
  have h2' : Gro room 2 (fun _ => []) (upd (upd (fun _ => []) 0 ([] ++ a)) 1 ((upd (fun _ => []) 0 ([] ++ a)) 1 ++ b)) (vD2 room a b) := h2.1
  have hn : (vD2 room a b).n = two a b := by
    funext i
    rcases Nat.lt_or_ge i 4 with hi | hi
    · rw [h2'.nn d2 hi]
      unfold two one upd
      rcases four hi with rfl | rfl | rfl | rfl <;> simp
    · rw [h2'.ok.nbig i hi]
      unfold two one upd
      rw [if_neg (by omega), if_neg (by omega)]
  rcases (sync_ok h2'.ok).2 d2 with ⟨s1, _, s3⟩ | ⟨_, _, _, s4⟩
  · rw [hn, h2'.room] at s3
    exact ⟨h1.1.ok, r1, h2'.ok, r2, s1, s3, syncD_fused.trans f2⟩
  · rw [f2] at s4; cases s4
end
theorem two_any (t : Nat → Nat) (a b : List UInt8) : ∃ c E h, SI t (two a b) 0 c E h ∧ E ≤ 4611686018427387904 ∧ h.length ≤ a.length + b.length ∧ ((c = 0 ∧ whichN t a b = 0) ∨ (c = 1 ∧ ¬ whichN t a b = 0)) ∧ cntE t a b = (E, h) := by
  obtain ⟨c, E, h, g1, g2, g3, g4⟩ := si_any t (two a b) 0
  have e0 : two a b 0 = a := rfl
  have e1 : two a b (0 + 1) = b := rfl
  rw [e0, e1] at g3 g4
  refine ⟨c, E, h, g1, g2, g3, ?_⟩
  unfold whichN cntE
  rcases g4 with ⟨z1, z2, rfl, rfl, rfl⟩ | ⟨z, z2, rfl, z3⟩ | ⟨z, z2, rfl, z3⟩
  · rw [if_pos ⟨z1, z2⟩, if_pos ⟨z1, z2⟩]; exact ⟨.inr ⟨rfl, by decide⟩, rfl⟩
  · rw [if_neg z, if_neg z, if_pos z2, if_pos z2]; exact ⟨.inl ⟨rfl, rfl⟩, z3⟩
  · rw [if_neg z, if_neg z, if_neg z2, if_neg z2]; exact ⟨.inr ⟨rfl, by decide⟩, z3⟩
structure VJ (a b x : List UInt8) (room : Int) : Prop where
  la : a.length ≤ 2000
  lb : b.length ≤ 2000
  lx : x.length ≤ 2000 ∨ 59992 < x.length ∧ x.length ≤ 61000
  r : 1 ≤ room ∧ room ≤ 200000
  s : ((a.length + b.length : Nat) : Int) ≤ room
set_option maxHeartbeats 4000000 in
theorem sreads_c (t : Nat → Nat) (ht : ∀ i, i < 256 → t i < 4294967296) (a b x : List UInt8) (room : Int) (hroom : -9223372036854775808 ≤ room ∧ room < 9223372036854775808) : AC Try.prog 10 [.sc (tabV t), .sl (byA a), .sl (byA b), .sl (byA x), .sc (.int .i64 room)] (fun r => r = .s (.sc (.bool true))) := by
  refine AC.of' 210 4 Try.func10 rfl ?_
  change AW _ _ _ _ [TK.mk 0 .off, TK.mk 0 .off, TK.mk 0 .off, TK.mk 0 .off]
  refine AW.seq ?_
  refine AW.region ?_
  refine AL.op rfl (AOpB.op (op_tabbox 3 rfl rfl rfl ?_))
  refine AL.no ?_
  refine AL.ra ?_
  refine AL.nil ?_
  change AW _ _ _ _ _
  refine AW.seq ?_
  refine AW.seq ?_
  refine AW.region ?_
  refine AL.op rfl (AOpB.op (op_call (awake11_c) rfl (by kernel_rfl) rfl (none) ?_))
  rintro r rfl
  refine AL.no ?_
  refine AL.r (rd_un rfl rfl (fun _ => rfl)) ?_
  refine AL.nil ?_
  change AW _ _ _ _ _
  refine AW.cond_f rfl ?_
  refine AW.skip ?_
  change AW _ _ _ _ _
  refine AW.join (ι := Unit) [10, 33, 34, 35, 36, 37, 38, 39, 40, 41, 42, 43, 44, 45, 46, 47, 48, 49, 50, 51, 52, 53, 54, 55, 56, 57, 58, 59, 60, 61, 62, 63, 64, 65, 66, 67, 68, 69, 70, 71, 72] (fun u1 => []) [] (fun u1 => []) (fun u1 => VJ a b x room) ?_ ?_
  ·skip
   refine AW.seq ?_
   refine AW.region ?_
   refine AL.rm ?_
   refine AL.r (rd_len_sl rfl el_29 rfl) ?_
   refine AL.r (rd_bin rfl rfl rfl (fun _ => rfl)) ?_
   refine AL.rm ?_
   refine AL.fk (d := 36) rfl (fun h36 => ?_) (fun h36 => ?_)
   ·skip
    refine AL.n ?_
    refine AL.rf ?_
    refine AL.rf ?_
    refine AL.rf ?_
    refine AL.r (rd_pick_t rfl rfl rfl) ?_
    refine AL.rm ?_
    refine AL.rf ?_
    refine AL.rf ?_
    refine AL.rf ?_
    refine AL.rf ?_
    refine AL.ru ?_
    refine AL.ru ?_
    refine AL.ru ?_
    refine AL.rf ?_
    refine AL.r (rd_pick_t rfl rfl rfl) ?_
    refine AL.rm ?_
    refine AL.rf ?_
    refine AL.rf ?_
    refine AL.rf ?_
    refine AL.r (rd_pick_t rfl rfl rfl) ?_
    refine AL.rm ?_
    refine AL.rf ?_
    refine AL.rf ?_
    refine AL.rf ?_
    refine AL.rf ?_
    refine AL.rf ?_
    refine AL.rf ?_
    refine AL.rf ?_
    refine AL.r (rd_pick_t rfl rfl rfl) ?_
    refine AL.rm ?_
    refine AL.rf ?_
    refine AL.rf ?_
    refine AL.r (rd_pick_t rfl rfl rfl) ?_
    refine AL.rm ?_
    refine AL.rf ?_
    refine AL.rf ?_
    refine AL.r (rd_pick_t rfl rfl rfl) ?_
    refine AL.nil ?_
    change AW _ _ _ _ _
    refine AW.cond_t rfl ?_
    refine AW.seq ?_
    refine AW.region ?_
    refine AL.ra ?_
    refine AL.nil ?_
    change AW _ _ _ _ _
    refine AW.ret ?_
    change ResA _ _ _ _ _
    refine res1 rfl (ResV.tmp rfl) rfl ?_
    rfl
   ·skip
    refine AL.n ?_
    refine AL.ro (rd_move rfl rfl) ?_
    refine AL.ro (rd_len_sl rfl el_29 rfl) ?_
    refine AL.ro (rd_bin rfl rfl rfl (fun _ => rfl)) ?_
    refine AL.r (rd_pick_f rfl rfl rfl) ?_
    refine AL.rm ?_
    refine AL.fk (d := 41) rfl (fun h41 => ?_) (fun h41 => ?_)
    ·skip
     refine AL.n ?_
     refine AL.rf ?_
     refine AL.rf ?_
     refine AL.rf ?_
     refine AL.rf ?_
     refine AL.ru ?_
     refine AL.ru ?_
     refine AL.ru ?_
     refine AL.rf ?_
     refine AL.r (rd_pick_t rfl rfl rfl) ?_
     refine AL.rm ?_
     refine AL.rf ?_
     refine AL.rf ?_
     refine AL.rf ?_
     refine AL.r (rd_pick_t rfl rfl rfl) ?_
     refine AL.rm ?_
     refine AL.rf ?_
     refine AL.rf ?_
     refine AL.rf ?_
     refine AL.rf ?_
     refine AL.rf ?_
     refine AL.rf ?_
     refine AL.rf ?_
     refine AL.r (rd_pick_t rfl rfl rfl) ?_
     refine AL.rm ?_
     refine AL.rf ?_
     refine AL.rf ?_
     refine AL.r (rd_pick_t rfl rfl rfl) ?_
     refine AL.rm ?_
     refine AL.rf ?_
     refine AL.rf ?_
     refine AL.r (rd_pick_t rfl rfl rfl) ?_
     refine AL.nil ?_
     change AW _ _ _ _ _
     refine AW.cond_t rfl ?_
     refine AW.seq ?_
     refine AW.region ?_
     refine AL.ra ?_
     refine AL.nil ?_
     change AW _ _ _ _ _
     refine AW.ret ?_
     change ResA _ _ _ _ _
     refine res1 rfl (ResV.tmp rfl) rfl ?_
     rfl
    ·skip
     refine AL.n ?_
     refine AL.ro (rd_move rfl rfl) ?_
     refine AL.ro (rd_len_sl rfl el_29 rfl) ?_
     refine AL.ro (rd_bin rfl rfl rfl (fun _ => rfl)) ?_
     refine AL.ro (rd_move rfl rfl) ?_
     refine AL.fk (d := 45) rfl (fun h45 => ?_) (fun h45 => ?_)
     ·skip
      refine AL.n ?_
      refine AL.ro (rd_move rfl rfl) ?_
      refine AL.ro (rd_len_sl rfl el_29 rfl) ?_
      refine AL.ro (rd_bin rfl rfl rfl (fun _ => rfl)) ?_
      refine AL.ro (rd_pick_t rfl rfl rfl) ?_
      refine AL.r (rd_pick_f rfl rfl rfl) ?_
      refine AL.rm ?_
      refine AL.fk (d := 51) rfl (fun h51 => ?_) (fun h51 => ?_)
      ·skip
       refine AL.n ?_
       refine AL.rf ?_
       refine AL.rf ?_
       refine AL.rf ?_
       refine AL.r (rd_pick_t rfl rfl rfl) ?_
       refine AL.rm ?_
       refine AL.rf ?_
       refine AL.rf ?_
       refine AL.rf ?_
       refine AL.rf ?_
       refine AL.rf ?_
       refine AL.rf ?_
       refine AL.rf ?_
       refine AL.r (rd_pick_t rfl rfl rfl) ?_
       refine AL.rm ?_
       refine AL.rf ?_
       refine AL.rf ?_
       refine AL.r (rd_pick_t rfl rfl rfl) ?_
       refine AL.rm ?_
       refine AL.rf ?_
       refine AL.rf ?_
       refine AL.r (rd_pick_t rfl rfl rfl) ?_
       refine AL.nil ?_
       change AW _ _ _ _ _
       refine AW.cond_t rfl ?_
       refine AW.seq ?_
       refine AW.region ?_
       refine AL.ra ?_
       refine AL.nil ?_
       change AW _ _ _ _ _
       refine AW.ret ?_
       change ResA _ _ _ _ _
       refine res1 rfl (ResV.tmp rfl) rfl ?_
       rfl
      ·skip
       refine AL.n ?_
       refine AL.ro (rd_move rfl rfl) ?_
       refine AL.ro (rd_len_sl rfl el_29 rfl) ?_
       refine AL.ro (rd_bin rfl rfl rfl (fun _ => rfl)) ?_
       refine AL.r (rd_pick_f rfl rfl rfl) ?_
       refine AL.rm ?_
       refine AL.fk (d := 56) rfl (fun h56 => ?_) (fun h56 => ?_)
       ·skip
        refine AL.n ?_
        refine AL.rf ?_
        refine AL.rf ?_
        refine AL.rf ?_
        refine AL.rf ?_
        refine AL.rf ?_
        refine AL.rf ?_
        refine AL.rf ?_
        refine AL.r (rd_pick_t rfl rfl rfl) ?_
        refine AL.rm ?_
        refine AL.rf ?_
        refine AL.rf ?_
        refine AL.r (rd_pick_t rfl rfl rfl) ?_
        refine AL.rm ?_
        refine AL.rf ?_
        refine AL.rf ?_
        refine AL.r (rd_pick_t rfl rfl rfl) ?_
        refine AL.nil ?_
        change AW _ _ _ _ _
        refine AW.cond_t rfl ?_
        refine AW.seq ?_
        refine AW.region ?_
        refine AL.ra ?_
        refine AL.nil ?_
        change AW _ _ _ _ _
        refine AW.ret ?_
        change ResA _ _ _ _ _
        refine res1 rfl (ResV.tmp rfl) rfl ?_
        rfl
       ·skip
        refine AL.n ?_
        refine AL.ro (rd_move rfl rfl) ?_
        refine AL.ro (rd_move rfl rfl) ?_
        refine AL.ro (rd_len_sl rfl el_29 rfl) ?_
        refine AL.ro (rd_move rfl rfl) ?_
        refine AL.ro (rd_len_sl rfl el_29 rfl) ?_
        refine AL.ro (rd_arith_add rfl rfl rfl (IntWalk.i64_in _ (by omega))) ?_
        refine AL.ro (rd_bin rfl rfl rfl (fun _ => rfl)) ?_
        refine AL.r (rd_pick_f rfl rfl rfl) ?_
        refine AL.rm ?_
        refine AL.fk (d := 65) rfl (fun h65 => ?_) (fun h65 => ?_)
        ·skip
         refine AL.n ?_
         refine AL.rf ?_
         refine AL.rf ?_
         refine AL.r (rd_pick_t rfl rfl rfl) ?_
         refine AL.rm ?_
         refine AL.rf ?_
         refine AL.rf ?_
         refine AL.r (rd_pick_t rfl rfl rfl) ?_
         refine AL.nil ?_
         change AW _ _ _ _ _
         refine AW.cond_t rfl ?_
         refine AW.seq ?_
         refine AW.region ?_
         refine AL.ra ?_
         refine AL.nil ?_
         change AW _ _ _ _ _
         refine AW.ret ?_
         change ResA _ _ _ _ _
         refine res1 rfl (ResV.tmp rfl) rfl ?_
         rfl
        ·skip
         refine AL.n ?_
         refine AL.ro (rd_move rfl rfl) ?_
         refine AL.ro (rd_bin rfl rfl rfl (fun _ => rfl)) ?_
         refine AL.r (rd_pick_f rfl rfl rfl) ?_
         refine AL.rm ?_
         refine AL.fk (d := 69) rfl (fun h69 => ?_) (fun h69 => ?_)
         ·skip
          refine AL.n ?_
          refine AL.rf ?_
          refine AL.rf ?_
          refine AL.r (rd_pick_t rfl rfl rfl) ?_
          refine AL.nil ?_
          change AW _ _ _ _ _
          refine AW.cond_t rfl ?_
          refine AW.seq ?_
          refine AW.region ?_
          refine AL.ra ?_
          refine AL.nil ?_
          change AW _ _ _ _ _
          refine AW.ret ?_
          change ResA _ _ _ _ _
          refine res1 rfl (ResV.tmp rfl) rfl ?_
          rfl
         ·skip
          refine AL.n ?_
          refine AL.ro (rd_move rfl rfl) ?_
          refine AL.ro (rd_bin rfl rfl rfl (fun _ => rfl)) ?_
          refine AL.r (rd_pick_f rfl rfl rfl) ?_
          refine AL.nil ?_
          change AW _ _ _ _ _
          refine AW.cd rfl (fun h72 => ?_) (fun h72 => ?_)
          ·skip
           refine AW.seq ?_
           refine AW.region ?_
           refine AL.ra ?_
           refine AL.nil ?_
           change AW _ _ _ _ _
           refine AW.ret ?_
           change ResA _ _ _ _ _
           refine res1 rfl (ResV.tmp rfl) rfl ?_
           rfl
          ·skip
           refine AW.skip ?_
           refine ⟨(), ⟨by omega, by omega, by omega, by omega, by omega⟩, (by simp only [anys, upds, offs, List.set_cons_zero, List.set_cons_succ]; repeat (first | exact Wk.nil | refine Wk.same ?_ | refine Wk.any ?_)), (by simp only [anys, upds, offs, List.set_cons_zero, List.set_cons_succ]; repeat (first | exact Sk.nil _ | refine Sk.same _ ?_ | refine Sk.scr _ (by decide) ?_))⟩
     ·skip
      refine AL.n ?_
      refine AL.rf ?_
      refine AL.rf ?_
      refine AL.rf ?_
      refine AL.ro (rd_pick_f rfl rfl rfl) ?_
      refine AL.r (rd_pick_f rfl rfl rfl) ?_
      refine AL.rm ?_
      refine AL.ro (rd_move rfl rfl) ?_
      refine AL.ro (rd_len_sl rfl el_29 rfl) ?_
      refine AL.ro (rd_bin rfl rfl rfl (fun _ => rfl)) ?_
      refine AL.r (rd_pick_f rfl rfl rfl) ?_
      refine AL.rm ?_
      refine AL.fk (d := 56) rfl (fun h56 => ?_) (fun h56 => ?_)
      ·skip
       refine AL.n ?_
       refine AL.rf ?_
       refine AL.rf ?_
       refine AL.rf ?_
       refine AL.rf ?_
       refine AL.rf ?_
       refine AL.rf ?_
       refine AL.rf ?_
       refine AL.r (rd_pick_t rfl rfl rfl) ?_
       refine AL.rm ?_
       refine AL.rf ?_
       refine AL.rf ?_
       refine AL.r (rd_pick_t rfl rfl rfl) ?_
       refine AL.rm ?_
       refine AL.rf ?_
       refine AL.rf ?_
       refine AL.r (rd_pick_t rfl rfl rfl) ?_
       refine AL.nil ?_
       change AW _ _ _ _ _
       refine AW.cond_t rfl ?_
       refine AW.seq ?_
       refine AW.region ?_
       refine AL.ra ?_
       refine AL.nil ?_
       change AW _ _ _ _ _
       refine AW.ret ?_
       change ResA _ _ _ _ _
       refine res1 rfl (ResV.tmp rfl) rfl ?_
       rfl
      ·skip
       refine AL.n ?_
       refine AL.ro (rd_move rfl rfl) ?_
       refine AL.ro (rd_move rfl rfl) ?_
       refine AL.ro (rd_len_sl rfl el_29 rfl) ?_
       refine AL.ro (rd_move rfl rfl) ?_
       refine AL.ro (rd_len_sl rfl el_29 rfl) ?_
       refine AL.ro (rd_arith_add rfl rfl rfl (IntWalk.i64_in _ (by omega))) ?_
       refine AL.ro (rd_bin rfl rfl rfl (fun _ => rfl)) ?_
       refine AL.r (rd_pick_f rfl rfl rfl) ?_
       refine AL.rm ?_
       refine AL.fk (d := 65) rfl (fun h65 => ?_) (fun h65 => ?_)
       ·skip
        refine AL.n ?_
        refine AL.rf ?_
        refine AL.rf ?_
        refine AL.r (rd_pick_t rfl rfl rfl) ?_
        refine AL.rm ?_
        refine AL.rf ?_
        refine AL.rf ?_
        refine AL.r (rd_pick_t rfl rfl rfl) ?_
        refine AL.nil ?_
        change AW _ _ _ _ _
        refine AW.cond_t rfl ?_
        refine AW.seq ?_
        refine AW.region ?_
        refine AL.ra ?_
        refine AL.nil ?_
        change AW _ _ _ _ _
        refine AW.ret ?_
        change ResA _ _ _ _ _
        refine res1 rfl (ResV.tmp rfl) rfl ?_
        rfl
       ·skip
        refine AL.n ?_
        refine AL.ro (rd_move rfl rfl) ?_
        refine AL.ro (rd_bin rfl rfl rfl (fun _ => rfl)) ?_
        refine AL.r (rd_pick_f rfl rfl rfl) ?_
        refine AL.rm ?_
        refine AL.fk (d := 69) rfl (fun h69 => ?_) (fun h69 => ?_)
        ·skip
         refine AL.n ?_
         refine AL.rf ?_
         refine AL.rf ?_
         refine AL.r (rd_pick_t rfl rfl rfl) ?_
         refine AL.nil ?_
         change AW _ _ _ _ _
         refine AW.cond_t rfl ?_
         refine AW.seq ?_
         refine AW.region ?_
         refine AL.ra ?_
         refine AL.nil ?_
         change AW _ _ _ _ _
         refine AW.ret ?_
         change ResA _ _ _ _ _
         refine res1 rfl (ResV.tmp rfl) rfl ?_
         rfl
        ·skip
         refine AL.n ?_
         refine AL.ro (rd_move rfl rfl) ?_
         refine AL.ro (rd_bin rfl rfl rfl (fun _ => rfl)) ?_
         refine AL.r (rd_pick_f rfl rfl rfl) ?_
         refine AL.nil ?_
         change AW _ _ _ _ _
         refine AW.cd rfl (fun h72 => ?_) (fun h72 => ?_)
         ·skip
          refine AW.seq ?_
          refine AW.region ?_
          refine AL.ra ?_
          refine AL.nil ?_
          change AW _ _ _ _ _
          refine AW.ret ?_
          change ResA _ _ _ _ _
          refine res1 rfl (ResV.tmp rfl) rfl ?_
          rfl
         ·skip
          refine AW.skip ?_
          refine ⟨(), ⟨by omega, by omega, by omega, by omega, by omega⟩, (by simp only [anys, upds, offs, List.set_cons_zero, List.set_cons_succ]; repeat (first | exact Wk.nil | refine Wk.same ?_ | refine Wk.any ?_)), (by simp only [anys, upds, offs, List.set_cons_zero, List.set_cons_succ]; repeat (first | exact Sk.nil _ | refine Sk.same _ ?_ | refine Sk.scr _ (by decide) ?_))⟩
  ·rintro u1 gs72 hJ72
   refine AW.norm (by simp only [anys, upds, offs, List.set_cons_zero, List.set_cons_succ]; rfl) (by (try simp only [anys, upds, offs, List.set_cons_zero, List.set_cons_succ]); (try rfl)) ?_
   (try dsimp only at hJ72)
   change AW _ _ _ _ _
   refine AW.seq ?_
   refine AW.region ?_
   obtain ⟨ha, hb, hx, hr, hsum⟩ := hJ72
   obtain ⟨k1, k2, k3, k4, k5, k6, k7⟩ := vD_ok room a b hr hsum
   obtain ⟨c, E, h, g1, g2, g3, g4, g5⟩ := two_any t a b
   have hw : Sw t 0 room 2 (two a b) ⟨0, c, E, h, false⟩ (vD3 room a b) c E h := ⟨k6, ⟨rfl, rfl, rfl, by omega, g1.c2, g2⟩, rfl, rfl, g1⟩
   obtain ⟨p1, p2, p3, p4, p5, p6, p7, p8⟩ := hw.any (x := x) k7
   have hleft : 0 ≤ leftD (vD3 room a b) ∧ leftD (vD3 room a b) ≤ 200000 := (by have := k6.gro.ok.ntot; have := k6.gro.ok.room; have := k6.gro.room; rw [leftD_eq]; omega)
   refine AL.rm ?_
   refine AL.op rfl (calloZ (od_new room hr 0) [0] ?_)
   rintro y os' ⟨rfl, rfl⟩
   refine AL.noZ ?_
   refine AL.rm ?_
   refine AL.r (rd_extract rfl rfl rfl) ?_
   refine AL.r (rd_extract rfl rfl rfl) ?_
   refine AL.ra ?_
   refine AL.ra ?_
   refine AL.nil ?_
   change AW _ _ _ _ _
   refine AW.seq ?_
   refine AW.seq ?_
   refine AW.region ?_
   refine AL.rm ?_
   refine AL.rm ?_
   refine AL.op rfl (calloZ (lval (ok_append (k := 0) (d := newD room) (okNew hr) (by omega) 1 0 a (by omega)) k2) [0] ?_)
   rintro y os' ⟨rfl, rfl⟩
   refine AL.noZ ?_
   refine AL.r (rd_bin rfl rfl rfl (fun _ => rfl)) ?_
   refine AL.rm ?_
   refine AL.ro (rd_move rfl rfl) ?_
   refine AL.ro (rd_move rfl rfl) ?_
   refine AL.on rfl rfl rfl (calloZ (lval (ok_append (k := 1) (d := vD1 room a) k1 (by omega) 1 1 b (by omega)) k4) [0] ?_)
   rintro y os' ⟨rfl, rfl⟩
   refine AL.noZ ?_
   refine AL.ro (rd_bin rfl rfl rfl (fun _ => rfl)) ?_
   refine AL.r (rd_pick_f rfl rfl rfl) ?_
   refine AL.rm ?_
   refine AL.ro (rd_move rfl rfl) ?_
   refine AL.on rfl rfl rfl (calloZ (lval (ok_sync (k := 2) (d := vD2 room a b) k3 (by omega) 1) k5) [0] ?_)
   rintro y os' ⟨rfl, rfl⟩
   refine AL.noZ ?_
   refine AL.ro (rd_bin rfl rfl rfl (fun _ => rfl)) ?_
   refine AL.r (rd_pick_f rfl rfl rfl) ?_
   refine AL.nil ?_
   change AW _ _ _ _ _
   refine AW.cond_f rfl ?_
   refine AW.skip ?_
   change AW _ _ _ _ _
   refine AW.seq ?_
   refine AW.region ?_
   refine AL.rm ?_
   refine AL.op rfl (calloZ (od_deeds (vD3 room a b) 1) [0] ?_)
   rintro y os' ⟨rfl, rfl⟩
   refine AL.noZ ?_
   refine AL.ra ?_
   refine AL.nil ?_
   change AW _ _ _ _ _
   refine AW.seq ?_
   refine AW.region ?_
   refine AL.rm ?_
   refine AL.r (rd_tab0 rfl ag_53 rfl rfl) ?_
   refine AL.op rfl (calloZ (sopen_v t ht (vD3 room a b) k6.gro.ok (by omega) 1 0 0 (by omega) k6.dark (SI.opened (d := vD3 room a b) (f := 0) (by rw [k6.n]; exact g1)) rfl rfl) [0, 1] ?_)
   rintro y os' ⟨rfl, rfl⟩
   refine AL.noZ ?_
   refine AL.rm ?_
   refine AL.r (rd_extract rfl rfl rfl) ?_
   refine AL.r (rd_extract rfl rfl rfl) ?_
   refine AL.ra ?_
   refine AL.ra ?_
   refine AL.nil ?_
   change AW _ _ _ _ _
   refine AW.seq ?_
   refine AW.region ?_
   refine AL.r (rd_tab0 rfl ag_53 rfl rfl) ?_
   refine AL.rm ?_
   refine AL.rm ?_
   have hcc := rcounts_c t ht a b (by omega) (by omega); rw [g5] at hcc
   refine AL.op rfl (AOpB.op (op_call (hcc) rfl (by kernel_rfl) rfl (none) ?_))
   rintro r rfl
   refine AL.no ?_
   refine AL.rm ?_
   refine AL.r (rd_extract rfl rfl rfl) ?_
   refine AL.r (rd_extract rfl rfl rfl) ?_
   refine AL.r (rd_extract rfl rfl rfl) ?_
   refine AL.ra ?_
   refine AL.ra ?_
   refine AL.ra ?_
   refine AL.nil ?_
   change AW _ _ _ _ _
   refine AW.seq ?_
   refine AW.seq ?_
   refine AW.drawA (by kernel_rfl) ?_
   refine ADA.r 0 rfl (ARdP.a (rdP_move rfl rfl)) rfl ?_
   refine ADA.r 1 rfl (ARdP.a (rdP_bin rfl rfl rfl (fun _ => rfl))) rfl ?_
   refine ADA.r 2 rfl (ARdP.a (rdP_move rfl rfl)) rfl ?_
   refine ADA.r 3 rfl (ARdP.a (rdP_move rfl rfl)) ⟨_, _, rfl, rfl, rfl⟩ ?_
   refine ADA.r 5 rfl (ARdP.a (rdP_move rfl rfl)) ⟨_, _, rfl, rfl, rfl⟩ ?_
   refine ADA.b ?_
   refine ADB.mv 4 rfl (calloZ (sepoch_c 1 1 t ⟨0, c, E, h, false⟩ (vD3 room a b)) [1, 0] ?_)
   rintro y os' ⟨rfl, rfl⟩
   refine ADB.noZ ?_
   refine ADB.r 6 rfl (rdP_bin rfl rfl rfl (fun _ => rfl)) ⟨_, _, rfl, rfl, rfl⟩ ?_
   refine ADB.r 7 rfl (rdP_pick_f rfl rfl rfl) rfl ?_
   refine ADB.r 8 rfl (rdP_move rfl rfl) rfl ?_
   refine ADB.fk (d := 117) rfl (fun h117 => ?_) (fun h117 => ?_)
   ·skip
    first | exact (h117 trivial).elim | exact (h117 rfl).elim
   ·skip
    refine ADB.n ?_
    refine ADB.r 9 rfl (rdP_move rfl rfl) ⟨_, _, rfl, rfl, rfl⟩ ?_
    refine ADB.r 12 rfl (rdP_move rfl rfl) ⟨_, _, rfl, rfl, rfl⟩ ?_
    refine ADB.ra 13 rfl (rdA_b2s rfl (by kernel_rfl) rfl) ⟨_, _, rfl, rfl, rfl⟩ ?_
    refine ADB.mv 10 rfl (calloZ (sbytes_v 1 1 t ⟨0, c, E, h, false⟩ (vD3 room a b) rfl (show h.length ≤ 1099511627776 by omega)) [1, 0] ?_)
    rintro y os' ⟨rfl, rfl⟩
    refine ADB.noZ ?_
    refine ADB.ra 11 rfl (rdA_b2s rfl (by kernel_rfl) rfl) ⟨_, _, rfl, rfl, rfl⟩ ?_
    refine ADB.r 14 rfl (rdP_sne rfl rfl rfl) ⟨_, _, rfl, rfl, rfl⟩ ?_
    refine ADB.r 15 rfl (rdP_pick_f rfl rfl rfl) rfl ?_
    refine ADB.r 16 rfl (rdP_move rfl rfl) rfl ?_
    refine ADB.fk (d := 125) rfl (fun h125 => ?_) (fun h125 => ?_)
    ·skip
     first | exact (h125 trivial).elim | exact (h125 rfl).elim
    ·skip
     refine ADB.n ?_
     refine ADB.r 17 rfl (rdP_move rfl rfl) ⟨_, _, rfl, rfl, rfl⟩ ?_
     refine ADB.r 19 rfl (rdP_move rfl rfl) ⟨_, _, rfl, rfl, rfl⟩ ?_
     refine ADB.mv 18 rfl (calloZ (od_deeds (vD3 room a b) 1) [0] ?_)
     rintro y os' ⟨rfl, rfl⟩
     refine ADB.noZ ?_
     refine ADB.r 20 rfl (rdP_bin rfl rfl rfl (fun _ => rfl)) ⟨_, _, rfl, rfl, rfl⟩ ?_
     refine ADB.r 21 rfl (rdP_pick_f rfl rfl rfl) rfl ?_
     refine ADB.done (by kernel_rfl) ?_
     change AW _ _ _ _ _
     refine AW.cd rfl (fun h130 => ?_) (fun h130 => ?_)
     ·skip
      refine AW.seq ?_
      first | exact (h130 trivial).elim | exact (h130 rfl).elim
     ·skip
      refine AW.skip ?_
      change AW _ _ _ _ _
      refine AW.seq ?_
      refine AW.drawA (by kernel_rfl) ?_
      refine ADA.r 1 rfl (ARdP.a (rdP_move rfl rfl)) rfl ?_
      refine ADA.r 2 rfl (ARdP.a (rdP_move rfl rfl)) rfl ?_
      refine ADA.r 3 rfl (ARdP.a (rdP_move rfl rfl)) rfl ?_
      refine ADA.r 4 rfl (ARdP.a (rdP_move rfl rfl)) rfl ?_
      refine ADA.b ?_
      refine ADB.all (is := [0, 5]) (by kernel_rfl) (by simp) ?_
      intro i hi
      simp only [List.mem_cons, List.not_mem_nil, or_false] at hi
      rcases hi with rfl | rfl
      ·skip
       refine ⟨_, rfl, rfl, AOpB.op (ARd.opB (rd_tab0 rfl ag_53 rfl rfl) ?_)⟩
       refine ADB.n ?_
       refine ADB.mv 5 rfl (calloZ (od_left (vD3 room a b) 1 (k6.gro.ok.fit (by omega)).room (k6.gro.ok.fit (by omega)).n) [0] ?_)
       rintro y os' ⟨rfl, rfl⟩
       refine ADB.noZ ?_
       refine ADB.mv 6 rfl (AOpB.op (op_call (rput_c t ht a b x (leftD (vD3 room a b)) ha hb (by omega) hleft g4 g5 g2) rfl (by kernel_rfl) rfl (none) ?_))
       rintro r rfl
       refine ADB.n ?_
       refine ADB.r 7 rfl (rdP_move rfl rfl) rfl ?_
       refine ADB.r 8 rfl (rdP_extract rfl rfl rfl) rfl ?_
       refine ADB.r 9 rfl (rdP_extract rfl rfl rfl) rfl ?_
       refine ADB.r 10 rfl (rdP_extract rfl rfl rfl) rfl ?_
       refine ADB.r 11 rfl (rdP_assign rfl rfl) rfl ?_
       refine ADB.r 12 rfl (rdP_assign rfl rfl) rfl ?_
       refine ADB.r 13 rfl (rdP_assign rfl rfl) rfl ?_
       refine ADB.done (by kernel_rfl) ?_
       change AW _ _ _ _ _
       refine AW.seq ?_
       refine AW.region ?_
       refine AL.rm ?_
       refine AL.rm ?_
       refine AL.op rfl (calloZ (lval (sput_c 1 1 t ht ⟨0, c, E, h, false⟩ (vD3 room a b) k6.gro.ok (by omega) hw.pos x) p1) [1, 0] ?_)
       rintro y os' ⟨rfl, rfl⟩
       refine AL.noZ ?_
       refine AL.ra ?_
       refine AL.nil ?_
       change AW _ _ _ _ _
       refine AW.seq ?_
       refine AW.region ?_
       refine AL.rm ?_
       refine AL.op rfl (calloZ (read_v p2 (by omega) 1 0 (by omega) p4 (by rw [p3])) [0] ?_)
       rintro y os' ⟨rfl, rfl⟩
       refine AL.noZ ?_
       refine AL.rm ?_
       refine AL.r (rd_extract rfl rfl rfl) ?_
       refine AL.r (rd_extract rfl rfl rfl) ?_
       refine AL.ra ?_
       refine AL.ra ?_
       refine AL.nil ?_
       change AW _ _ _ _ _
       refine AW.seq ?_
       refine AW.region ?_
       refine AL.rm ?_
       refine AL.op rfl (calloZ (read_v p2 (by omega) 1 1 (by omega) p4 (by rw [p3])) [0] ?_)
       rintro y os' ⟨rfl, rfl⟩
       refine AL.noZ ?_
       refine AL.rm ?_
       refine AL.r (rd_extract rfl rfl rfl) ?_
       refine AL.r (rd_extract rfl rfl rfl) ?_
       refine AL.ra ?_
       refine AL.ra ?_
       refine AL.nil ?_
       change AW _ _ _ _ _
       refine AW.seq ?_
       refine AW.seq ?_
       refine AW.region ?_
       refine AL.rm ?_
       refine AL.rm ?_
       refine AL.r (rd_bin rfl rfl rfl (fun _ => rfl)) ?_
       refine AL.rm ?_
       refine AL.fk (d := 158) rfl (fun h158 => ?_) (fun h158 => ?_)
       ·skip
        first | exact (h158 trivial).elim | exact (h158 rfl).elim
       ·skip
        refine AL.n ?_
        refine AL.ro (rd_move rfl rfl) ?_
        refine AL.ro (rd_b2s rfl (by kernel_rfl) (src_s rfl)) ?_
        refine AL.ro (rd_move rfl rfl) ?_
        refine AL.ro (rd_b2s rfl (by kernel_rfl) (src_s rfl)) ?_
        refine AL.ro (rd_sne rfl rfl rfl) ?_
        refine AL.r (rd_pick_f rfl rfl rfl) ?_
        refine AL.rm ?_
        refine AL.fk (d := 165) rfl (fun h165 => ?_) (fun h165 => ?_)
        ·skip
         first | exact (h165 trivial).elim | exact (h165 rfl).elim
        ·skip
         refine AL.n ?_
         refine AL.ro (rd_move rfl rfl) ?_
         refine AL.ro (rd_b2s rfl (by kernel_rfl) (src_s rfl)) ?_
         refine AL.ro (rd_move rfl rfl) ?_
         refine AL.ro (rd_b2s rfl (by kernel_rfl) (src_s rfl)) ?_
         refine AL.ro (rd_sne rfl rfl rfl) ?_
         refine AL.r (rd_pick_f rfl rfl rfl) ?_
         refine AL.nil ?_
         change AW _ _ _ _ _
         refine AW.cd rfl (fun h171 => ?_) (fun h171 => ?_)
         ·skip
          refine AW.seq ?_
          first | exact (h171 trivial).elim | exact (h171 rfl).elim
         ·skip
          refine AW.skip ?_
          change AW _ _ _ _ _
          refine AW.seq ?_
          refine AW.region ?_
          refine AL.rm ?_
          refine AL.rm ?_
          refine AL.ra ?_
          refine AL.ra ?_
          refine AL.nil ?_
          change AW _ _ _ _ _
          refine AW.join (ι := Int × List UInt8) [174, 175, 176, 177, 178] (fun ⟨e2, h2⟩ => [(27, .sc (.int .i64 e2)), (28, .sl (byA h2))]) [] (fun ⟨e2, h2⟩ => []) (fun ⟨e2, h2⟩ => e2 = (if putC t (two a b) c E x (leftD (vD3 room a b)) = 0 then ((E + 1 : Nat) : Int) else (E : Int)) ∧ h2 = (if putC t (two a b) c E x (leftD (vD3 room a b)) = 0 then x else h)) ?_ ?_
          ·skip
           refine AW.seq ?_
           refine AW.region ?_
           refine AL.rm ?_
           refine AL.r (rd_bin rfl rfl rfl (fun _ => rfl)) ?_
           refine AL.nil ?_
           change AW _ _ _ _ _
           refine AW.cd rfl (fun h175 => ?_) (fun h175 => ?_)
           ·skip
            refine AW.region ?_
            refine AL.rm ?_
            refine AL.r (rd_arith_add rfl rfl rfl (IntWalk.i64_in _ (by omega))) ?_
            refine AL.rm ?_
            refine AL.ra ?_
            refine AL.ra ?_
            refine AL.nil ?_
            refine ⟨(((E + 1 : Nat) : Int), x), ⟨by rw [if_pos h175], by rw [if_pos h175]⟩, (by simp only [anys, upds, offs, List.set_cons_zero, List.set_cons_succ]; repeat (first | exact Wk.nil | refine Wk.same ?_ | refine Wk.any ?_)), (by simp only [anys, upds, offs, List.set_cons_zero, List.set_cons_succ]; repeat (first | exact Sk.nil _ | refine Sk.same _ ?_ | refine Sk.scr _ (by decide) ?_))⟩
           ·skip
            refine AW.skip ?_
            refine ⟨((E : Int), h), ⟨by rw [if_neg h175], by rw [if_neg h175]⟩, (by simp only [anys, upds, offs, List.set_cons_zero, List.set_cons_succ]; repeat (first | exact Wk.nil | refine Wk.same ?_ | refine Wk.any ?_)), (by simp only [anys, upds, offs, List.set_cons_zero, List.set_cons_succ]; repeat (first | exact Sk.nil _ | refine Sk.same _ ?_ | refine Sk.scr _ (by decide) ?_))⟩
          ·rintro ⟨e2, h2⟩ gs175 hJ175
           refine AW.norm (by simp only [anys, upds, offs, List.set_cons_zero, List.set_cons_succ]; rfl) (by (try simp only [anys, upds, offs, List.set_cons_zero, List.set_cons_succ]); (try rfl)) ?_
           (try dsimp only at hJ175)
           change AW _ _ _ _ _
           refine AW.seq ?_
           refine AW.region ?_
           obtain ⟨z1, z2⟩ := hJ175
           refine AL.rm ?_
           refine AL.r (rd_tab0 rfl ag_53 rfl rfl) ?_
           refine AL.op rfl (calloZ (sopen_v t ht (sputD t ⟨0, c, E, h, false⟩ (vD3 room a b) 0 c E x) p2 (by omega) 1 0 0 (by omega) p4 rfl (openS_file _ _ 0).1 (openS_file _ _ 0).2) [0, 2] ?_)
           rintro y os' ⟨rfl, rfl⟩
           refine AL.noZ ?_
           refine AL.rm ?_
           refine AL.r (rd_extract rfl rfl rfl) ?_
           refine AL.r (rd_extract rfl rfl rfl) ?_
           refine AL.ra ?_
           refine AL.ra ?_
           refine AL.nil ?_
           change AW _ _ _ _ _
           refine AW.seq ?_
           refine AW.drawA (by kernel_rfl) ?_
           refine ADA.r 0 rfl (ARdP.a (rdP_move rfl rfl)) rfl ?_
           refine ADA.r 2 rfl (ARdP.a (rdP_move rfl rfl)) rfl ?_
           refine ADA.b ?_
           refine ADB.mv 1 rfl (calloZ (lval (sepoch_c 1 1 t (sputS t ⟨0, c, E, h, false⟩ (vD3 room a b) 0 c E x) (sputD t ⟨0, c, E, h, false⟩ (vD3 room a b) 0 c E x)) (p5.trans z1.symm)) [1, 0] ?_)
           rintro y os' ⟨rfl, rfl⟩
           refine ADB.noZ ?_
           refine ADB.r 3 rfl (rdP_bin rfl rfl rfl (fun _ => rfl)) rfl ?_
           refine ADB.r 4 rfl (rdP_move rfl rfl) rfl ?_
           refine ADB.fk (d := 189) rfl (fun h189 => ?_) (fun h189 => ?_)
           ·skip
            refine ADB.n ?_
            refine ADB.r 5 rfl (rdP_move rfl rfl) ⟨_, _, rfl, rfl, rfl⟩ ?_
            refine ADB.r 8 rfl (rdP_move rfl rfl) ⟨_, _, rfl, rfl, rfl⟩ ?_
            refine ADB.ra 9 rfl (rdA_b2s rfl (by kernel_rfl) rfl) ⟨_, _, rfl, rfl, rfl⟩ ?_
            refine ADB.mv 6 rfl (calloZ (sbytes_v 1 1 t (sputS t ⟨0, c, E, h, false⟩ (vD3 room a b) 0 c E x) (sputD t ⟨0, c, E, h, false⟩ (vD3 room a b) 0 c E x) (p6.trans z2.symm) (by rw [z2]; split <;> omega)) [1, 0] ?_)
            rintro y os' ⟨rfl, rfl⟩
            refine ADB.noZ ?_
            refine ADB.ra 7 rfl (rdA_b2s rfl (by kernel_rfl) rfl) ⟨_, _, rfl, rfl, rfl⟩ ?_
            refine ADB.r 10 rfl (rdP_seq rfl rfl rfl) ⟨_, _, rfl, rfl, rfl⟩ ?_
            refine ADB.r 11 rfl (rdP_pick_t rfl rfl rfl) rfl ?_
            refine ADB.r 12 rfl (rdP_move rfl rfl) rfl ?_
            refine ADB.fk (d := 197) rfl (fun h197 => ?_) (fun h197 => ?_)
            ·skip
             refine ADB.n ?_
             refine ADB.r 13 rfl (rdP_move rfl rfl) ⟨_, _, rfl, rfl, rfl⟩ ?_
             refine ADB.r 14 rfl (rdP_bin rfl rfl rfl (fun _ => rfl)) ⟨_, _, rfl, rfl, rfl⟩ ?_
             refine ADB.r 15 rfl (rdP_pick_t rfl rfl rfl) rfl ?_
             refine ADB.r 16 rfl (rdP_move rfl rfl) rfl ?_
             refine ADB.r 17 rfl (rdP_move rfl rfl) ⟨_, _, rfl, rfl, rfl⟩ ?_
             refine ADB.r 19 rfl (rdP_move rfl rfl) ⟨_, _, rfl, rfl, rfl⟩ ?_
             refine ADB.mv 18 rfl (calloZ (lval (sepoch_c 1 1 t (openS t (sputD t ⟨0, c, E, h, false⟩ (vD3 room a b) 0 c E x) 0) (sputD t ⟨0, c, E, h, false⟩ (vD3 room a b) 0 c E x)) (p7.trans z1.symm)) [2, 0] ?_)
             rintro y os' ⟨rfl, rfl⟩
             refine ADB.noZ ?_
             refine ADB.r 20 rfl (rdP_bin rfl rfl rfl (fun _ => rfl)) ⟨_, _, rfl, rfl, rfl⟩ ?_
             refine ADB.r 21 rfl (rdP_pick_t rfl rfl rfl) rfl ?_
             refine ADB.r 22 rfl (rdP_move rfl rfl) rfl ?_
             refine ADB.fk (d := 207) rfl (fun h207 => ?_) (fun h207 => ?_)
             ·skip
              refine ADB.n ?_
              refine ADB.r 23 rfl (rdP_move rfl rfl) ⟨_, _, rfl, rfl, rfl⟩ ?_
              refine ADB.r 26 rfl (rdP_move rfl rfl) ⟨_, _, rfl, rfl, rfl⟩ ?_
              refine ADB.ra 27 rfl (rdA_b2s rfl (by kernel_rfl) rfl) ⟨_, _, rfl, rfl, rfl⟩ ?_
              refine ADB.mv 24 rfl (calloZ (sbytes_v 1 1 t (openS t (sputD t ⟨0, c, E, h, false⟩ (vD3 room a b) 0 c E x) 0) (sputD t ⟨0, c, E, h, false⟩ (vD3 room a b) 0 c E x) (p8.trans z2.symm) (by rw [z2]; split <;> omega)) [2, 0] ?_)
              rintro y os' ⟨rfl, rfl⟩
              refine ADB.noZ ?_
              refine ADB.ra 25 rfl (rdA_b2s rfl (by kernel_rfl) rfl) ⟨_, _, rfl, rfl, rfl⟩ ?_
              refine ADB.r 28 rfl (rdP_seq rfl rfl rfl) ⟨_, _, rfl, rfl, rfl⟩ ?_
              refine ADB.r 29 rfl (rdP_pick_t rfl rfl rfl) rfl ?_
              refine ADB.r 30 rfl (rdP_assign rfl rfl) rfl ?_
              refine ADB.done (by kernel_rfl) ?_
              change AW _ _ _ _ _
              refine AW.ret ?_
              change ResA _ _ _ _ _
              refine res1 rfl (ResV.tmp rfl) rfl ?_
              simp
             ·skip
              first | exact (h207 trivial).elim | exact (h207 rfl).elim
            ·skip
             first | exact (h197 trivial).elim | exact (h197 rfl).elim
           ·skip
            first | exact (h189 trivial).elim | exact (h189 rfl).elim
      ·skip
       refine ⟨_, rfl, rfl, calloZ (od_left (vD3 room a b) 1 (k6.gro.ok.fit (by omega)).room (k6.gro.ok.fit (by omega)).n) [0] ?_⟩
       rintro y os' ⟨rfl, rfl⟩
       refine ADB.noZ ?_
       refine ADB.mv 0 rfl (AOpB.op (ARd.opB (rd_tab0 rfl ag_53 rfl rfl) ?_))
       refine ADB.n ?_
       refine ADB.mv 6 rfl (AOpB.op (op_call (rput_c t ht a b x (leftD (vD3 room a b)) ha hb (by omega) hleft g4 g5 g2) rfl (by kernel_rfl) rfl (none) ?_))
       rintro r rfl
       refine ADB.n ?_
       refine ADB.r 7 rfl (rdP_move rfl rfl) rfl ?_
       refine ADB.r 8 rfl (rdP_extract rfl rfl rfl) rfl ?_
       refine ADB.r 9 rfl (rdP_extract rfl rfl rfl) rfl ?_
       refine ADB.r 10 rfl (rdP_extract rfl rfl rfl) rfl ?_
       refine ADB.r 11 rfl (rdP_assign rfl rfl) rfl ?_
       refine ADB.r 12 rfl (rdP_assign rfl rfl) rfl ?_
       refine ADB.r 13 rfl (rdP_assign rfl rfl) rfl ?_
       refine ADB.done (by kernel_rfl) ?_
       change AW _ _ _ _ _
       refine AW.seq ?_
       refine AW.region ?_
       refine AL.rm ?_
       refine AL.rm ?_
       refine AL.op rfl (calloZ (lval (sput_c 1 1 t ht ⟨0, c, E, h, false⟩ (vD3 room a b) k6.gro.ok (by omega) hw.pos x) p1) [1, 0] ?_)
       rintro y os' ⟨rfl, rfl⟩
       refine AL.noZ ?_
       refine AL.ra ?_
       refine AL.nil ?_
       change AW _ _ _ _ _
       refine AW.seq ?_
       refine AW.region ?_
       refine AL.rm ?_
       refine AL.op rfl (calloZ (read_v p2 (by omega) 1 0 (by omega) p4 (by rw [p3])) [0] ?_)
       rintro y os' ⟨rfl, rfl⟩
       refine AL.noZ ?_
       refine AL.rm ?_
       refine AL.r (rd_extract rfl rfl rfl) ?_
       refine AL.r (rd_extract rfl rfl rfl) ?_
       refine AL.ra ?_
       refine AL.ra ?_
       refine AL.nil ?_
       change AW _ _ _ _ _
       refine AW.seq ?_
       refine AW.region ?_
       refine AL.rm ?_
       refine AL.op rfl (calloZ (read_v p2 (by omega) 1 1 (by omega) p4 (by rw [p3])) [0] ?_)
       rintro y os' ⟨rfl, rfl⟩
       refine AL.noZ ?_
       refine AL.rm ?_
       refine AL.r (rd_extract rfl rfl rfl) ?_
       refine AL.r (rd_extract rfl rfl rfl) ?_
       refine AL.ra ?_
       refine AL.ra ?_
       refine AL.nil ?_
       change AW _ _ _ _ _
       refine AW.seq ?_
       refine AW.seq ?_
       refine AW.region ?_
       refine AL.rm ?_
       refine AL.rm ?_
       refine AL.r (rd_bin rfl rfl rfl (fun _ => rfl)) ?_
       refine AL.rm ?_
       refine AL.fk (d := 158) rfl (fun h158 => ?_) (fun h158 => ?_)
       ·skip
        first | exact (h158 trivial).elim | exact (h158 rfl).elim
       ·skip
        refine AL.n ?_
        refine AL.ro (rd_move rfl rfl) ?_
        refine AL.ro (rd_b2s rfl (by kernel_rfl) (src_s rfl)) ?_
        refine AL.ro (rd_move rfl rfl) ?_
        refine AL.ro (rd_b2s rfl (by kernel_rfl) (src_s rfl)) ?_
        refine AL.ro (rd_sne rfl rfl rfl) ?_
        refine AL.r (rd_pick_f rfl rfl rfl) ?_
        refine AL.rm ?_
        refine AL.fk (d := 165) rfl (fun h165 => ?_) (fun h165 => ?_)
        ·skip
         first | exact (h165 trivial).elim | exact (h165 rfl).elim
        ·skip
         refine AL.n ?_
         refine AL.ro (rd_move rfl rfl) ?_
         refine AL.ro (rd_b2s rfl (by kernel_rfl) (src_s rfl)) ?_
         refine AL.ro (rd_move rfl rfl) ?_
         refine AL.ro (rd_b2s rfl (by kernel_rfl) (src_s rfl)) ?_
         refine AL.ro (rd_sne rfl rfl rfl) ?_
         refine AL.r (rd_pick_f rfl rfl rfl) ?_
         refine AL.nil ?_
         change AW _ _ _ _ _
         refine AW.cd rfl (fun h171 => ?_) (fun h171 => ?_)
         ·skip
          refine AW.seq ?_
          first | exact (h171 trivial).elim | exact (h171 rfl).elim
         ·skip
          refine AW.skip ?_
          change AW _ _ _ _ _
          refine AW.seq ?_
          refine AW.region ?_
          refine AL.rm ?_
          refine AL.rm ?_
          refine AL.ra ?_
          refine AL.ra ?_
          refine AL.nil ?_
          change AW _ _ _ _ _
          refine AW.join (ι := Int × List UInt8) [174, 175, 176, 177, 178] (fun ⟨e2, h2⟩ => [(27, .sc (.int .i64 e2)), (28, .sl (byA h2))]) [] (fun ⟨e2, h2⟩ => []) (fun ⟨e2, h2⟩ => e2 = (if putC t (two a b) c E x (leftD (vD3 room a b)) = 0 then ((E + 1 : Nat) : Int) else (E : Int)) ∧ h2 = (if putC t (two a b) c E x (leftD (vD3 room a b)) = 0 then x else h)) ?_ ?_
          ·skip
           refine AW.seq ?_
           refine AW.region ?_
           refine AL.rm ?_
           refine AL.r (rd_bin rfl rfl rfl (fun _ => rfl)) ?_
           refine AL.nil ?_
           change AW _ _ _ _ _
           refine AW.cd rfl (fun h175 => ?_) (fun h175 => ?_)
           ·skip
            refine AW.region ?_
            refine AL.rm ?_
            refine AL.r (rd_arith_add rfl rfl rfl (IntWalk.i64_in _ (by omega))) ?_
            refine AL.rm ?_
            refine AL.ra ?_
            refine AL.ra ?_
            refine AL.nil ?_
            refine ⟨(((E + 1 : Nat) : Int), x), ⟨by rw [if_pos h175], by rw [if_pos h175]⟩, (by simp only [anys, upds, offs, List.set_cons_zero, List.set_cons_succ]; repeat (first | exact Wk.nil | refine Wk.same ?_ | refine Wk.any ?_)), (by simp only [anys, upds, offs, List.set_cons_zero, List.set_cons_succ]; repeat (first | exact Sk.nil _ | refine Sk.same _ ?_ | refine Sk.scr _ (by decide) ?_))⟩
           ·skip
            refine AW.skip ?_
            refine ⟨((E : Int), h), ⟨by rw [if_neg h175], by rw [if_neg h175]⟩, (by simp only [anys, upds, offs, List.set_cons_zero, List.set_cons_succ]; repeat (first | exact Wk.nil | refine Wk.same ?_ | refine Wk.any ?_)), (by simp only [anys, upds, offs, List.set_cons_zero, List.set_cons_succ]; repeat (first | exact Sk.nil _ | refine Sk.same _ ?_ | refine Sk.scr _ (by decide) ?_))⟩
          ·rintro ⟨e2, h2⟩ gs175 hJ175
           refine AW.norm (by simp only [anys, upds, offs, List.set_cons_zero, List.set_cons_succ]; rfl) (by (try simp only [anys, upds, offs, List.set_cons_zero, List.set_cons_succ]); (try rfl)) ?_
           (try dsimp only at hJ175)
           change AW _ _ _ _ _
           refine AW.seq ?_
           refine AW.region ?_
           obtain ⟨z1, z2⟩ := hJ175
           refine AL.rm ?_
           refine AL.r (rd_tab0 rfl ag_53 rfl rfl) ?_
           refine AL.op rfl (calloZ (sopen_v t ht (sputD t ⟨0, c, E, h, false⟩ (vD3 room a b) 0 c E x) p2 (by omega) 1 0 0 (by omega) p4 rfl (openS_file _ _ 0).1 (openS_file _ _ 0).2) [0, 2] ?_)
           rintro y os' ⟨rfl, rfl⟩
           refine AL.noZ ?_
           refine AL.rm ?_
           refine AL.r (rd_extract rfl rfl rfl) ?_
           refine AL.r (rd_extract rfl rfl rfl) ?_
           refine AL.ra ?_
           refine AL.ra ?_
           refine AL.nil ?_
           change AW _ _ _ _ _
           refine AW.seq ?_
           refine AW.drawA (by kernel_rfl) ?_
           refine ADA.r 0 rfl (ARdP.a (rdP_move rfl rfl)) rfl ?_
           refine ADA.r 2 rfl (ARdP.a (rdP_move rfl rfl)) rfl ?_
           refine ADA.b ?_
           refine ADB.mv 1 rfl (calloZ (lval (sepoch_c 1 1 t (sputS t ⟨0, c, E, h, false⟩ (vD3 room a b) 0 c E x) (sputD t ⟨0, c, E, h, false⟩ (vD3 room a b) 0 c E x)) (p5.trans z1.symm)) [1, 0] ?_)
           rintro y os' ⟨rfl, rfl⟩
           refine ADB.noZ ?_
           refine ADB.r 3 rfl (rdP_bin rfl rfl rfl (fun _ => rfl)) rfl ?_
           refine ADB.r 4 rfl (rdP_move rfl rfl) rfl ?_
           refine ADB.fk (d := 189) rfl (fun h189 => ?_) (fun h189 => ?_)
           ·skip
            refine ADB.n ?_
            refine ADB.r 5 rfl (rdP_move rfl rfl) ⟨_, _, rfl, rfl, rfl⟩ ?_
            refine ADB.r 8 rfl (rdP_move rfl rfl) ⟨_, _, rfl, rfl, rfl⟩ ?_
            refine ADB.ra 9 rfl (rdA_b2s rfl (by kernel_rfl) rfl) ⟨_, _, rfl, rfl, rfl⟩ ?_
            refine ADB.mv 6 rfl (calloZ (sbytes_v 1 1 t (sputS t ⟨0, c, E, h, false⟩ (vD3 room a b) 0 c E x) (sputD t ⟨0, c, E, h, false⟩ (vD3 room a b) 0 c E x) (p6.trans z2.symm) (by rw [z2]; split <;> omega)) [1, 0] ?_)
            rintro y os' ⟨rfl, rfl⟩
            refine ADB.noZ ?_
            refine ADB.ra 7 rfl (rdA_b2s rfl (by kernel_rfl) rfl) ⟨_, _, rfl, rfl, rfl⟩ ?_
            refine ADB.r 10 rfl (rdP_seq rfl rfl rfl) ⟨_, _, rfl, rfl, rfl⟩ ?_
            refine ADB.r 11 rfl (rdP_pick_t rfl rfl rfl) rfl ?_
            refine ADB.r 12 rfl (rdP_move rfl rfl) rfl ?_
            refine ADB.fk (d := 197) rfl (fun h197 => ?_) (fun h197 => ?_)
            ·skip
             refine ADB.n ?_
             refine ADB.r 13 rfl (rdP_move rfl rfl) ⟨_, _, rfl, rfl, rfl⟩ ?_
             refine ADB.r 14 rfl (rdP_bin rfl rfl rfl (fun _ => rfl)) ⟨_, _, rfl, rfl, rfl⟩ ?_
             refine ADB.r 15 rfl (rdP_pick_t rfl rfl rfl) rfl ?_
             refine ADB.r 16 rfl (rdP_move rfl rfl) rfl ?_
             refine ADB.r 17 rfl (rdP_move rfl rfl) ⟨_, _, rfl, rfl, rfl⟩ ?_
             refine ADB.r 19 rfl (rdP_move rfl rfl) ⟨_, _, rfl, rfl, rfl⟩ ?_
             refine ADB.mv 18 rfl (calloZ (lval (sepoch_c 1 1 t (openS t (sputD t ⟨0, c, E, h, false⟩ (vD3 room a b) 0 c E x) 0) (sputD t ⟨0, c, E, h, false⟩ (vD3 room a b) 0 c E x)) (p7.trans z1.symm)) [2, 0] ?_)
             rintro y os' ⟨rfl, rfl⟩
             refine ADB.noZ ?_
             refine ADB.r 20 rfl (rdP_bin rfl rfl rfl (fun _ => rfl)) ⟨_, _, rfl, rfl, rfl⟩ ?_
             refine ADB.r 21 rfl (rdP_pick_t rfl rfl rfl) rfl ?_
             refine ADB.r 22 rfl (rdP_move rfl rfl) rfl ?_
             refine ADB.fk (d := 207) rfl (fun h207 => ?_) (fun h207 => ?_)
             ·skip
              refine ADB.n ?_
              refine ADB.r 23 rfl (rdP_move rfl rfl) ⟨_, _, rfl, rfl, rfl⟩ ?_
              refine ADB.r 26 rfl (rdP_move rfl rfl) ⟨_, _, rfl, rfl, rfl⟩ ?_
              refine ADB.ra 27 rfl (rdA_b2s rfl (by kernel_rfl) rfl) ⟨_, _, rfl, rfl, rfl⟩ ?_
              refine ADB.mv 24 rfl (calloZ (sbytes_v 1 1 t (openS t (sputD t ⟨0, c, E, h, false⟩ (vD3 room a b) 0 c E x) 0) (sputD t ⟨0, c, E, h, false⟩ (vD3 room a b) 0 c E x) (p8.trans z2.symm) (by rw [z2]; split <;> omega)) [2, 0] ?_)
              rintro y os' ⟨rfl, rfl⟩
              refine ADB.noZ ?_
              refine ADB.ra 25 rfl (rdA_b2s rfl (by kernel_rfl) rfl) ⟨_, _, rfl, rfl, rfl⟩ ?_
              refine ADB.r 28 rfl (rdP_seq rfl rfl rfl) ⟨_, _, rfl, rfl, rfl⟩ ?_
              refine ADB.r 29 rfl (rdP_pick_t rfl rfl rfl) rfl ?_
              refine ADB.r 30 rfl (rdP_assign rfl rfl) rfl ?_
              refine ADB.done (by kernel_rfl) ?_
              change AW _ _ _ _ _
              refine AW.ret ?_
              change ResA _ _ _ _ _
              refine res1 rfl (ResV.tmp rfl) rfl ?_
              simp
             ·skip
              first | exact (h207 trivial).elim | exact (h207 rfl).elim
            ·skip
             first | exact (h197 trivial).elim | exact (h197 rfl).elim
           ·skip
            first | exact (h189 trivial).elim | exact (h189 rfl).elim
theorem walk_SlotsReads (w : World) (t0 : Nat → Nat) (ht0 : ∀ i, i < 256 → t0 i < 4294967296) (v1 : Value) (b1 : List UInt8) (hb1 : b1.length ≤ maxLen) (rp1 : RepS AnyB w v1 (.sl (byA b1))) (v2 : Value) (b2 : List UInt8) (hb2 : b2.length ≤ maxLen) (rp2 : RepS AnyB w v2 (.sl (byA b2))) (v3 : Value) (b3 : List UInt8) (hb3 : b3.length ≤ maxLen) (rp3 : RepS AnyB w v3 (.sl (byA b3))) (a4 : Int) (w4 : (Lit.int .i64 a4).wf = true) :
    Calls Try.prog 10 #[tabV t0, v1, v2, v3, .int .i64 a4] w fun e w' => e = .returned (.bool true) ∧ Below w.heap.size w w' :=
  (sreads_c t0 ht0 b1 b2 b3 a4 (by have := bounds_i64 w4; omega)).law (vs := [tabV t0, v1, v2, v3, .int .i64 a4]) rfl (rep_cons (.sc _) (rep_cons rp1 (rep_cons rp2 (rep_cons rp3 (rep_cons (.sc _) rep_nil)))))
end Go.Proofs.Ytgjpeldgjpgbcaa
