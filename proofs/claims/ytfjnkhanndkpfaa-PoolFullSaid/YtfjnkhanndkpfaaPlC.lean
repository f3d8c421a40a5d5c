/- Pools: one more op, walked over abstract states. No conditions. -/
import Derived.Test.YtfjnkhanndkpfaaPlB
namespace Go.Proofs.Ytfjnkhanndkpfaa
set_option linter.unusedSimpArgs false
set_option linter.unusedVariables false
set_option maxRecDepth 100000
set_option maxRecDepth 100000
open Go.RowKit

def updP (p : PoolD) (i : Nat) (l : List OpD) : PoolD := fun j => if j = i then l else p j
def putC (p : PoolD) (o : OpD) : Int := if rightO o = false then 5 else if hasV (lensP p) o.id = true then (if (findP p o.id).1 = o then 7 else 15) else if o.id.n = ((p (o.id.rep - 1).toNat).length : Int) + 1 then (if 400 ≤ totP p then 9 else 0) else 17
def putP (p : PoolD) (o : OpD) : PoolD := if putC p o = 0 then updP p (o.id.rep - 1).toNat (p (o.id.rep - 1).toNat ++ [o]) else p
theorem lfP {g g1 g2 g3 g4 g5 g6 : Nat} {a c : Int} {y : AV} {D D' : PoolD} {os : List TK} (e : a = c ∧ D = D') (h1 : y = AI c := by rfl) (h2 : os = poolT g g1 g2 g3 g4 g5 g6 D' := by first | rfl | (simp only [poolT, updP, List.map_append, List.map_cons, List.map_nil, OpD.cs]; rfl)) : y = AI a ∧ PoolAt g D os := by
  rw [e.1, e.2]
  exact ⟨h1, g1, g2, g3, g4, g5, g6, h2⟩
theorem poolT_push1 {g g1 g2 g3 g4 g5 g6 : Nat} {p : PoolD} {o : OpD} : poolT g g1 g2 g3 g4 g5 g6 (updP p 0 (p 0 ++ [o])) = [⟨g, .box 114 [.ow 1 g1, .ow 2 g2, .ow 3 g3, .ow 4 g4, .ow 5 g5, .ow 6 g6]⟩, ⟨g1, owM true 47 15 ((p 0).map OpD.cs ++ [OpD.cs o])⟩, ⟨g2, owM true 47 15 ((p 1).map OpD.cs)⟩, ⟨g3, owM true 47 15 ((p 2).map OpD.cs)⟩, ⟨g4, owM true 47 15 ((p 3).map OpD.cs)⟩, ⟨g5, owM true 47 15 ((p 4).map OpD.cs)⟩, ⟨g6, owM true 47 15 ((p 5).map OpD.cs)⟩] := by simp [poolT, updP]
theorem poolT_push2 {g g1 g2 g3 g4 g5 g6 : Nat} {p : PoolD} {o : OpD} : poolT g g1 g2 g3 g4 g5 g6 (updP p 1 (p 1 ++ [o])) = [⟨g, .box 114 [.ow 1 g1, .ow 2 g2, .ow 3 g3, .ow 4 g4, .ow 5 g5, .ow 6 g6]⟩, ⟨g1, owM true 47 15 ((p 0).map OpD.cs)⟩, ⟨g2, owM true 47 15 ((p 1).map OpD.cs ++ [OpD.cs o])⟩, ⟨g3, owM true 47 15 ((p 2).map OpD.cs)⟩, ⟨g4, owM true 47 15 ((p 3).map OpD.cs)⟩, ⟨g5, owM true 47 15 ((p 4).map OpD.cs)⟩, ⟨g6, owM true 47 15 ((p 5).map OpD.cs)⟩] := by simp [poolT, updP]
theorem poolT_push3 {g g1 g2 g3 g4 g5 g6 : Nat} {p : PoolD} {o : OpD} : poolT g g1 g2 g3 g4 g5 g6 (updP p 2 (p 2 ++ [o])) = [⟨g, .box 114 [.ow 1 g1, .ow 2 g2, .ow 3 g3, .ow 4 g4, .ow 5 g5, .ow 6 g6]⟩, ⟨g1, owM true 47 15 ((p 0).map OpD.cs)⟩, ⟨g2, owM true 47 15 ((p 1).map OpD.cs)⟩, ⟨g3, owM true 47 15 ((p 2).map OpD.cs ++ [OpD.cs o])⟩, ⟨g4, owM true 47 15 ((p 3).map OpD.cs)⟩, ⟨g5, owM true 47 15 ((p 4).map OpD.cs)⟩, ⟨g6, owM true 47 15 ((p 5).map OpD.cs)⟩] := by simp [poolT, updP]
theorem poolT_push4 {g g1 g2 g3 g4 g5 g6 : Nat} {p : PoolD} {o : OpD} : poolT g g1 g2 g3 g4 g5 g6 (updP p 3 (p 3 ++ [o])) = [⟨g, .box 114 [.ow 1 g1, .ow 2 g2, .ow 3 g3, .ow 4 g4, .ow 5 g5, .ow 6 g6]⟩, ⟨g1, owM true 47 15 ((p 0).map OpD.cs)⟩, ⟨g2, owM true 47 15 ((p 1).map OpD.cs)⟩, ⟨g3, owM true 47 15 ((p 2).map OpD.cs)⟩, ⟨g4, owM true 47 15 ((p 3).map OpD.cs ++ [OpD.cs o])⟩, ⟨g5, owM true 47 15 ((p 4).map OpD.cs)⟩, ⟨g6, owM true 47 15 ((p 5).map OpD.cs)⟩] := by simp [poolT, updP]
theorem poolT_push5 {g g1 g2 g3 g4 g5 g6 : Nat} {p : PoolD} {o : OpD} : poolT g g1 g2 g3 g4 g5 g6 (updP p 4 (p 4 ++ [o])) = [⟨g, .box 114 [.ow 1 g1, .ow 2 g2, .ow 3 g3, .ow 4 g4, .ow 5 g5, .ow 6 g6]⟩, ⟨g1, owM true 47 15 ((p 0).map OpD.cs)⟩, ⟨g2, owM true 47 15 ((p 1).map OpD.cs)⟩, ⟨g3, owM true 47 15 ((p 2).map OpD.cs)⟩, ⟨g4, owM true 47 15 ((p 3).map OpD.cs)⟩, ⟨g5, owM true 47 15 ((p 4).map OpD.cs ++ [OpD.cs o])⟩, ⟨g6, owM true 47 15 ((p 5).map OpD.cs)⟩] := by simp [poolT, updP]
theorem poolT_push6 {g g1 g2 g3 g4 g5 g6 : Nat} {p : PoolD} {o : OpD} : poolT g g1 g2 g3 g4 g5 g6 (updP p 5 (p 5 ++ [o])) = [⟨g, .box 114 [.ow 1 g1, .ow 2 g2, .ow 3 g3, .ow 4 g4, .ow 5 g5, .ow 6 g6]⟩, ⟨g1, owM true 47 15 ((p 0).map OpD.cs)⟩, ⟨g2, owM true 47 15 ((p 1).map OpD.cs)⟩, ⟨g3, owM true 47 15 ((p 2).map OpD.cs)⟩, ⟨g4, owM true 47 15 ((p 3).map OpD.cs)⟩, ⟨g5, owM true 47 15 ((p 4).map OpD.cs)⟩, ⟨g6, owM true 47 15 ((p 5).map OpD.cs ++ [OpD.cs o])⟩] := by simp [poolT, updP]
section
variable {p : PoolD} {o : OpD}
theorem put_no (h : putC p o ≠ 0) : putC p o = putC p o ∧ putP p o = p := ⟨rfl, by unfold putP; rw [if_neg h]⟩
theorem put_5 (h : rightO o = false) : putC p o = 5 ∧ putP p o = p := by
  have e : putC p o = 5 := by unfold putC; rw [if_pos h]
  exact ⟨e, by unfold putP; rw [if_neg (by rw [e]; decide)]⟩
theorem find_has (t : TagD) : ((findP p t).2 = 0 ↔ hasV (lensP p) t = true) := by
  unfold findP
  split
  · simp_all
  · simp_all
theorem put_7 (h : rightO o = true) (h2 : (findP p o.id).2 = 0) (h3 : (findP p o.id).1 = o) : putC p o = 7 ∧ putP p o = p := by
  have e : putC p o = 7 := by unfold putC; rw [if_neg (by rw [h]; decide), if_pos ((find_has _).1 h2), if_pos h3]
  exact ⟨e, by unfold putP; rw [if_neg (by rw [e]; decide)]⟩
theorem put_15 (h : rightO o = true) (h2 : (findP p o.id).2 = 0) (h3 : ¬ (findP p o.id).1 = o) : putC p o = 15 ∧ putP p o = p := by
  have e : putC p o = 15 := by unfold putC; rw [if_neg (by rw [h]; decide), if_pos ((find_has _).1 h2), if_neg h3]
  exact ⟨e, by unfold putP; rw [if_neg (by rw [e]; decide)]⟩
theorem put_17 (h : rightO o = true) (h2 : ¬ (findP p o.id).2 = 0) (h3 : ¬ o.id.n = ((p (o.id.rep - 1).toNat).length : Int) + 1) : putC p o = 17 ∧ putP p o = p := by
  have e : putC p o = 17 := by unfold putC; rw [if_neg (by rw [h]; decide), if_neg (fun q => h2 ((find_has _).2 q)), if_neg h3]
  exact ⟨e, by unfold putP; rw [if_neg (by rw [e]; decide)]⟩
theorem put_9 (h : rightO o = true) (h2 : ¬ (findP p o.id).2 = 0) (h3 : o.id.n = ((p (o.id.rep - 1).toNat).length : Int) + 1) (h4 : 400 ≤ totP p) : putC p o = 9 ∧ putP p o = p := by
  have e : putC p o = 9 := by unfold putC; rw [if_neg (by rw [h]; decide), if_neg (fun q => h2 ((find_has _).2 q)), if_pos h3, if_pos h4]
  exact ⟨e, by unfold putP; rw [if_neg (by rw [e]; decide)]⟩
theorem put_0 (h : rightO o = true) (h2 : ¬ (findP p o.id).2 = 0) (h3 : o.id.n = ((p (o.id.rep - 1).toNat).length : Int) + 1) (h4 : ¬ 400 ≤ totP p) : putC p o = 0 ∧ putP p o = updP p (o.id.rep - 1).toNat (p (o.id.rep - 1).toNat ++ [o]) := by
  have e : putC p o = 0 := by unfold putC; rw [if_neg (by rw [h]; decide), if_neg (fun q => h2 ((find_has _).2 q)), if_pos h3, if_neg h4]
  exact ⟨e, by unfold putP; rw [if_pos e]⟩
end
section
variable (p : PoolD) (g g1 g2 g3 g4 g5 g6 : Nat)
theorem pput_f (o : OpD) (h : rightO o = false) : ACo Try.prog 27 [.bx 0 g 0, o.av] (poolT g g1 g2 g3 g4 g5 g6 p) (fun y os' => y = AI (putC p o) ∧ PoolAt g (putP p o) os') := by
  have hr := oright_g o
  rw [h] at hr
  refine ACo.of' (st0 := [⟨g, .box 114 [.ow 1 g1, .ow 2 g2, .ow 3 g3, .ow 4 g4, .ow 5 g5, .ow 6 g6]⟩, ⟨g1, owM true 47 15 ((p 0).map OpD.cs)⟩, ⟨g2, owM true 47 15 ((p 1).map OpD.cs)⟩, ⟨g3, owM true 47 15 ((p 2).map OpD.cs)⟩, ⟨g4, owM true 47 15 ((p 3).map OpD.cs)⟩, ⟨g5, owM true 47 15 ((p 4).map OpD.cs)⟩, ⟨g6, owM true 47 15 ((p 5).map OpD.cs)⟩, TK.mk 0 .off, TK.mk 0 .off, TK.mk 0 .off, TK.mk 0 .off]) 57 4 Try.func27 rfl 7 ?_
  refine AW.seq ?_
  refine AW.region ?_
  refine AL.op rfl (AOpB.op (op_box 7 rfl rfl rfl rfl rfl ?_))
  refine AL.no ?_
  refine AL.ra ?_
  refine AL.nil ?_
  change AW _ _ _ _ _
  refine AW.seq ?_
  refine AW.seq ?_
  refine AW.region ?_
  refine AL.rm ?_
  refine AL.r (rd_peq_bx rfl pt_41 rfl rfl rfl) ?_
  refine AL.nil ?_
  change AW _ _ _ _ _
  refine AW.cond_f rfl ?_
  refine AW.skip ?_
  change AW _ _ _ _ _
  refine AW.seq ?_
  refine AW.seq ?_
  refine AW.region ?_
  refine AL.r (rd_loadN_bx rfl ag_47 rfl rfl (Nat.le_of_ble_eq_true rfl) rfl) ?_
  refine AL.op rfl (AOpB.op (op_call (hr) rfl (by kernel_rfl) rfl (none) ?_))
  rintro r rfl
  refine AL.no ?_
  refine AL.r (rd_un rfl rfl (fun _ => rfl)) ?_
  refine AL.nil ?_
  change AW _ _ _ _ _
  refine AW.cond_t rfl ?_
  refine AW.seq ?_
  refine AW.region ?_
  refine AL.ra ?_
  refine AL.nil ?_
  change AW _ _ _ _ _
  refine AW.ret ?_
  repeat with_reducible first | refine thenA_ret ?_ | refine inBlockA_ret ?_
  with_reducible first | refine retO_ret ?_ | refine retO_normal ?_
  refine reso1S rfl (ResV.tmp rfl) rfl ?_
  exact lfP (put_5 h)
variable (hok : OkP p)
include hok
theorem pfind'_1 (n : Int) : ACo Try.prog 37 [.bx 0 g 0, .ag [AI 1, AI n]] (poolT g g1 g2 g3 g4 g5 g6 p) (fun y os' => (∃ x : OpD, x = (findP p ⟨1, n⟩).1 ∧ y = .tu [.ag [AI x.id.rep, AI x.id.n, AI x.schema.rep, AI x.schema.n, AI x.time, AS x.cart, AI x.kind, AS x.item, AI x.at_.scope, AS x.at_.group, AS x.at_.name, AI x.delta, AB x.has, AS x.text, .sl (x.drops.map TagD.cs)], AI (findP p ⟨1, n⟩).2]) ∧ os' = poolT g g1 g2 g3 g4 g5 g6 p) :=
  (pfind_1 p g g1 g2 g3 g4 g5 g6 hok n).mono fun y os' h => ⟨⟨_, rfl, h.1⟩, h.2⟩
set_option maxHeartbeats 1000000 in
theorem pput_1 (o : OpD) (n : Int) (h : rightO { o with id := ⟨1, n⟩ } = true) : ACo Try.prog 27 [.bx 0 g 0, .ag [AI 1, AI n, AI o.schema.rep, AI o.schema.n, AI o.time, AS o.cart, AI o.kind, AS o.item, AI o.at_.scope, AS o.at_.group, AS o.at_.name, AI o.delta, AB o.has, AS o.text, .sl (o.drops.map TagD.cs)]] (poolT g g1 g2 g3 g4 g5 g6 p) (fun y os' => y = AI (putC p { o with id := ⟨1, n⟩ }) ∧ PoolAt g (putP p { o with id := ⟨1, n⟩ }) os') := by
  have htot := hok.tot
  have hr := oright_g { o with id := ⟨1, n⟩ }
  rw [h] at hr
  have hdr : o.drops.length ≤ 60 := rightO_drops (o := { o with id := ⟨1, n⟩ }) h
  refine ACo.of' (st0 := [⟨g, .box 114 [.ow 1 g1, .ow 2 g2, .ow 3 g3, .ow 4 g4, .ow 5 g5, .ow 6 g6]⟩, ⟨g1, owM true 47 15 ((p 0).map OpD.cs)⟩, ⟨g2, owM true 47 15 ((p 1).map OpD.cs)⟩, ⟨g3, owM true 47 15 ((p 2).map OpD.cs)⟩, ⟨g4, owM true 47 15 ((p 3).map OpD.cs)⟩, ⟨g5, owM true 47 15 ((p 4).map OpD.cs)⟩, ⟨g6, owM true 47 15 ((p 5).map OpD.cs)⟩, TK.mk 0 .off, TK.mk 0 .off, TK.mk 0 .off, TK.mk 0 .off]) 57 4 Try.func27 rfl 7 ?_
  refine AW.seq ?_
  refine AW.region ?_
  refine AL.op rfl (AOpB.op (op_box 7 rfl rfl rfl rfl rfl ?_))
  refine AL.no ?_
  refine AL.ra ?_
  refine AL.nil ?_
  change AW _ _ _ _ _
  refine AW.seq ?_
  refine AW.seq ?_
  refine AW.region ?_
  refine AL.rm ?_
  refine AL.r (rd_peq_bx rfl pt_41 rfl rfl rfl) ?_
  refine AL.nil ?_
  change AW _ _ _ _ _
  refine AW.cond_f rfl ?_
  refine AW.skip ?_
  change AW _ _ _ _ _
  refine AW.seq ?_
  refine AW.seq ?_
  refine AW.region ?_
  refine AL.r (rd_loadN_bx rfl ag_47 rfl rfl (Nat.le_of_ble_eq_true rfl) rfl) ?_
  refine AL.op rfl (AOpB.op (op_call (hr) rfl (by kernel_rfl) rfl (none) ?_))
  rintro r rfl
  refine AL.no ?_
  refine AL.r (rd_un rfl rfl (fun _ => rfl)) ?_
  refine AL.nil ?_
  change AW _ _ _ _ _
  refine AW.cond_f rfl ?_
  refine AW.skip ?_
  change AW _ _ _ _ _
  refine AW.seq ?_
  refine AW.region ?_
  refine AL.rm ?_
  refine AL.r (rd_faddr_bx rfl fo_47_0 rfl rfl ⟨_, _, rfl⟩) ?_
  refine AL.r (rd_loadN_bx rfl ag_44 rfl rfl (Nat.le_of_ble_eq_true rfl) rfl) ?_
  refine AL.op rfl (calloP (pfind'_1 p g g1 g2 g3 g4 g5 g6 hok n) [0, 1, 2, 3, 4, 5, 6] ?_)
  rintro y os' ⟨⟨x, hx, rfl⟩, rfl⟩
  refine AL.noP ?_
  refine AL.rm ?_
  refine AL.r (rd_extract rfl rfl rfl) ?_
  refine AL.r (rd_extract rfl rfl rfl) ?_
  refine AL.op rfl (AOpB.op (op_alloc 8 rfl ze_47 rfl ?_))
  refine AL.no ?_
  refine AL.op rfl (op_store_ rfl rfl rfl rfl rfl sz_47 ?_)
  refine AL.no ?_
  refine AL.ra ?_
  refine AL.nil ?_
  change AW _ _ _ _ _
  refine AW.seq ?_
  refine AW.seq ?_
  refine AW.region ?_
  refine AL.rm ?_
  refine AL.r (rd_bin rfl rfl rfl (fun _ => rfl)) ?_
  refine AL.nil ?_
  change AW _ _ _ _ _
  refine AW.cd rfl (fun h21 => ?_) (fun h21 => ?_)
  ·skip
   refine AW.seq ?_
   refine AW.seq ?_
   refine AW.region ?_
   refine AL.r (rd_loadN_bx rfl ag_47 rfl rfl (Nat.le_of_ble_eq_true rfl) rfl) ?_
   refine AL.r (rd_loadN_bx rfl ag_47 rfl rfl (Nat.le_of_ble_eq_true rfl) rfl) ?_
   refine AL.op rfl (AOpB.op (op_call (osame_c x { o with id := ⟨1, n⟩ }) rfl (by kernel_rfl) rfl (none) ?_))
   rintro r rfl
   refine AL.no ?_
   refine AL.nil ?_
   change AW _ _ _ _ _
   refine AW.cd rfl (fun h24 => ?_) (fun h24 => ?_)
   ·skip
    refine AW.seq ?_
    refine AW.region ?_
    refine AL.ra ?_
    refine AL.nil ?_
    change AW _ _ _ _ _
    refine AW.ret ?_
    repeat with_reducible first | refine thenA_ret ?_ | refine inBlockA_ret ?_
    with_reducible first | refine retO_ret ?_ | refine retO_normal ?_
    refine reso1P rfl (ResV.tmp rfl) rfl ?_
    exact lfP (put_7 h h21 (hx ▸ h24))
   ·skip
    refine AW.skip ?_
    change AW _ _ _ _ _
    refine AW.seq ?_
    refine AW.region ?_
    refine AL.ra ?_
    refine AL.nil ?_
    change AW _ _ _ _ _
    refine AW.ret ?_
    repeat with_reducible first | refine thenA_ret ?_ | refine inBlockA_ret ?_
    with_reducible first | refine retO_ret ?_ | refine retO_normal ?_
    refine reso1P rfl (ResV.tmp rfl) rfl ?_
    exact lfP (put_15 h h21 (hx ▸ h24))
  ·skip
   refine AW.skip ?_
   change AW _ _ _ _ _
   refine AW.seq ?_
   refine AW.freebox 3 rfl rfl (Nat.zero_lt_succ _) rfl ?_
   refine AW.norm (by simp only [anys, upds, offs, List.set_cons_zero, List.set_cons_succ]; rfl) (by (try simp only [anys, upds, offs, List.set_cons_zero, List.set_cons_succ]); (try rfl)) ?_
   refine AW.region ?_
   refine AL.r (rd_faddr_ep rfl fo_47_0 rfl) ?_
   refine AL.r (rd_faddr_ep rfl fo_44_0 rfl) ?_
   refine AL.r (rd_load_ep rfl ag_3 rfl rfl) ?_
   refine AL.r (rd_arith_sub rfl rfl rfl (rfl : _ = (0 : Int))) ?_
   refine AL.ra ?_
   refine AL.nil ?_
   change AW _ _ _ _ _
   refine AW.seq ?_
   refine AW.seq ?_
   refine AW.draw (by kernel_rfl) ?_
   refine AD.r 0 rfl (rd_faddr_ep rfl fo_47_0 rfl) rfl ?_
   refine AD.r 1 rfl (rd_faddr_ep rfl fo_44_1 rfl) rfl ?_
   refine AD.r 2 rfl (rd_load_ep rfl ag_3 rfl rfl) rfl ?_
   refine AD.r 3 rfl (rd_move rfl rfl) rfl ?_
   refine AD.r 4 rfl (rd_move rfl rfl) rfl ?_
   refine AD.r 5 rfl (rd_nilc_bx rfl rfl rfl) rfl ?_
   refine AD.r 6 rfl (rd_faddr_bx rfl fo_114_0 rfl rfl ⟨_, _, rfl⟩) rfl ?_
   refine AD.r 7 rfl (rd_iaddr_bx_ 0 rfl ar_112 rfl rfl rfl) rfl ?_
   refine AD.r 8 rfl (rd_load_bx rfl ag_50 rfl rfl rfl) rfl ?_
   refine AD.r 9 rfl (rd_len_owM rfl el_50 rfl rfl) rfl ?_
   refine AD.r 10 rfl (rd_arith_add rfl rfl rfl (by first | exact IntWalk.i64_in _ (by omega) | rfl)) rfl ?_
   refine AD.r 11 rfl (rd_bin rfl rfl rfl (fun _ => rfl)) rfl ?_
   refine AD.done (by kernel_rfl) ?_
   change AW _ _ _ _ _
   refine AW.cd rfl (fun h40 => ?_) (fun h40 => ?_)
   ·skip
    refine AW.seq ?_
    refine AW.region ?_
    refine AL.ra ?_
    refine AL.nil ?_
    change AW _ _ _ _ _
    refine AW.ret ?_
    repeat with_reducible first | refine thenA_ret ?_ | refine inBlockA_ret ?_
    with_reducible first | refine retO_ret ?_ | refine retO_normal ?_
    refine reso1P rfl (ResV.tmp rfl) rfl ?_
    exact lfP (put_17 h h21 h40)
   ·skip
    refine AW.skip ?_
    change AW _ _ _ _ _
    refine AW.seq ?_
    refine AW.seq ?_
    refine AW.region ?_
    refine AL.rm ?_
    refine AL.op rfl (calloP (plen_c p g g1 g2 g3 g4 g5 g6 (by unfold totP; omega)) [0, 1, 2, 3, 4, 5, 6] ?_)
    rintro y os' ⟨rfl, rfl⟩
    refine AL.noP ?_
    refine AL.r (rd_bin rfl rfl rfl (fun _ => rfl)) ?_
    refine AL.nil ?_
    change AW _ _ _ _ _
    refine AW.cd rfl (fun h43 => ?_) (fun h43 => ?_)
    ·skip
     refine AW.seq ?_
     refine AW.region ?_
     refine AL.ra ?_
     refine AL.nil ?_
     change AW _ _ _ _ _
     refine AW.ret ?_
     repeat with_reducible first | refine thenA_ret ?_ | refine inBlockA_ret ?_
     with_reducible first | refine retO_ret ?_ | refine retO_normal ?_
     refine reso1P rfl (ResV.tmp rfl) rfl ?_
     exact lfP (put_9 h h21 (by show n = _; exact h40) (by omega))
    ·skip
     refine AW.skip ?_
     change AW _ _ _ _ _
     refine AW.seq ?_
     refine AW.drawA (by kernel_rfl) ?_
     refine ADA.r 0 rfl (ARdP.a (rdP_move rfl rfl)) rfl ?_
     refine ADA.r 1 rfl (ARdP.a (rdP_move rfl rfl)) rfl ?_
     refine ADA.r 2 rfl (ARdP.a (rdP_move rfl rfl)) rfl ?_
     refine ADA.r 3 rfl (ARdP.a (rdP_move rfl rfl)) rfl ?_
     refine ADA.r 4 rfl (ARdP.a (rdP_nilc_bx rfl rfl rfl)) rfl ?_
     refine ADA.r 5 rfl (ARdP.a (rdP_faddr_bx rfl fo_114_0 rfl rfl ⟨_, _, rfl⟩)) rfl ?_
     refine ADA.r 6 rfl (ARdP.a (rdP_iaddr_bx_ 0 rfl ar_112 rfl rfl rfl)) rfl ?_
     refine ADA.r 8 rfl (rdA_loadN_ep rfl ag_47 rfl (Nat.le_of_ble_eq_true rfl) rfl) rfl ?_
     refine ADA.r 12 rfl (ARdP.a (rdP_nilc_bx rfl rfl rfl)) rfl ?_
     refine ADA.r 13 rfl (ARdP.a (rdP_faddr_bx rfl fo_114_0 rfl rfl ⟨_, _, rfl⟩)) rfl ?_
     refine ADA.b ?_
     refine ADB.all (is := [7, 9]) (by kernel_rfl) (by simp) ?_
     intro i hi
     simp only [List.mem_cons, List.not_mem_nil, or_false] at hi
     rcases hi with rfl | rfl
     ·skip
      refine ⟨_, rfl, rfl, AOpB.op (ARd.opB (rd_load_bx rfl ag_50 rfl rfl rfl) ?_)⟩
      refine ADB.n ?_
      refine ADB.mv 9 rfl (AOpB.op (op_call (oown_c { o with id := ⟨1, n⟩ } (by show o.drops.length ≤ _; omega)) rfl (by kernel_rfl) rfl (none) ?_))
      rintro r rfl
      refine ADB.n ?_
      refine ADB.mv 10 rfl (AOpB.op (bs_set rfl ap_50 ze_47 rfl rfl ?_))
      refine ADB.n ?_
      refine ADB.mv 11 rfl (op_appendM rfl ap_50 rfl rfl (src_s rfl) (by simp; omega) (by simp; omega) ?_)
      refine ADB.n ?_
      refine ADB.r 14 rfl (rdP_iaddr_bx_ 0 rfl ar_112 rfl rfl rfl) rfl ?_
      refine ADB.mv 15 rfl (op_storo rfl rfl rfl rfl rfl sz_50 ?_)
      refine ADB.n ?_
      refine ADB.done (by kernel_rfl) ?_
      change AW _ _ _ _ _
      refine AW.seq ?_
      refine AW.region ?_
      refine AL.ra ?_
      refine AL.nil ?_
      change AW _ _ _ _ _
      refine AW.ret ?_
      repeat with_reducible first | refine thenA_ret ?_ | refine inBlockA_ret ?_
      with_reducible first | refine retO_ret ?_ | refine retO_normal ?_
      refine reso1P rfl (ResV.tmp rfl) rfl ?_
      exact lfP (D' := updP p 0 (p 0 ++ [{ o with id := ⟨1, n⟩ }])) (put_0 h h21 (by show n = _; exact h40) (by omega)) rfl (by rw [poolT_push1]; rfl)
     ·skip
      refine ⟨_, rfl, rfl, AOpB.op (op_call (oown_c { o with id := ⟨1, n⟩ } (by show o.drops.length ≤ _; omega)) rfl (by kernel_rfl) rfl (none) ?_)⟩
      rintro r rfl
      refine ADB.n ?_
      refine ADB.all (is := [7, 10]) (by kernel_rfl) (by simp) ?_
      intro i hi
      simp only [List.mem_cons, List.not_mem_nil, or_false] at hi
      rcases hi with rfl | rfl
      ·skip
       refine ⟨_, rfl, rfl, AOpB.op (ARd.opB (rd_load_bx rfl ag_50 rfl rfl rfl) ?_)⟩
       refine ADB.n ?_
       refine ADB.mv 10 rfl (AOpB.op (bs_set rfl ap_50 ze_47 rfl rfl ?_))
       refine ADB.n ?_
       refine ADB.mv 11 rfl (op_appendM rfl ap_50 rfl rfl (src_s rfl) (by simp; omega) (by simp; omega) ?_)
       refine ADB.n ?_
       refine ADB.r 14 rfl (rdP_iaddr_bx_ 0 rfl ar_112 rfl rfl rfl) rfl ?_
       refine ADB.mv 15 rfl (op_storo rfl rfl rfl rfl rfl sz_50 ?_)
       refine ADB.n ?_
       refine ADB.done (by kernel_rfl) ?_
       change AW _ _ _ _ _
       refine AW.seq ?_
       refine AW.region ?_
       refine AL.ra ?_
       refine AL.nil ?_
       change AW _ _ _ _ _
       refine AW.ret ?_
       repeat with_reducible first | refine thenA_ret ?_ | refine inBlockA_ret ?_
       with_reducible first | refine retO_ret ?_ | refine retO_normal ?_
       refine reso1P rfl (ResV.tmp rfl) rfl ?_
       exact lfP (D' := updP p 0 (p 0 ++ [{ o with id := ⟨1, n⟩ }])) (put_0 h h21 (by show n = _; exact h40) (by omega)) rfl (by rw [poolT_push1]; rfl)
      ·skip
       refine ⟨_, rfl, rfl, AOpB.op (bs_set rfl ap_50 ze_47 rfl rfl ?_)⟩
       refine ADB.n ?_
       refine ADB.mv 7 rfl (AOpB.op (ARd.opB (rd_load_bx rfl ag_50 rfl rfl rfl) ?_))
       refine ADB.n ?_
       refine ADB.mv 11 rfl (op_appendM rfl ap_50 rfl rfl (src_s rfl) (by simp; omega) (by simp; omega) ?_)
       refine ADB.n ?_
       refine ADB.r 14 rfl (rdP_iaddr_bx_ 0 rfl ar_112 rfl rfl rfl) rfl ?_
       refine ADB.mv 15 rfl (op_storo rfl rfl rfl rfl rfl sz_50 ?_)
       refine ADB.n ?_
       refine ADB.done (by kernel_rfl) ?_
       change AW _ _ _ _ _
       refine AW.seq ?_
       refine AW.region ?_
       refine AL.ra ?_
       refine AL.nil ?_
       change AW _ _ _ _ _
       refine AW.ret ?_
       repeat with_reducible first | refine thenA_ret ?_ | refine inBlockA_ret ?_
       with_reducible first | refine retO_ret ?_ | refine retO_normal ?_
       refine reso1P rfl (ResV.tmp rfl) rfl ?_
       exact lfP (D' := updP p 0 (p 0 ++ [{ o with id := ⟨1, n⟩ }])) (put_0 h h21 (by show n = _; exact h40) (by omega)) rfl (by rw [poolT_push1]; rfl)
theorem pfind'_2 (n : Int) : ACo Try.prog 37 [.bx 0 g 0, .ag [AI 2, AI n]] (poolT g g1 g2 g3 g4 g5 g6 p) (fun y os' => (∃ x : OpD, x = (findP p ⟨2, n⟩).1 ∧ y = .tu [.ag [AI x.id.rep, AI x.id.n, AI x.schema.rep, AI x.schema.n, AI x.time, AS x.cart, AI x.kind, AS x.item, AI x.at_.scope, AS x.at_.group, AS x.at_.name, AI x.delta, AB x.has, AS x.text, .sl (x.drops.map TagD.cs)], AI (findP p ⟨2, n⟩).2]) ∧ os' = poolT g g1 g2 g3 g4 g5 g6 p) :=
  (pfind_2 p g g1 g2 g3 g4 g5 g6 hok n).mono fun y os' h => ⟨⟨_, rfl, h.1⟩, h.2⟩
set_option maxHeartbeats 1000000 in
theorem pput_2 (o : OpD) (n : Int) (h : rightO { o with id := ⟨2, n⟩ } = true) : ACo Try.prog 27 [.bx 0 g 0, .ag [AI 2, AI n, AI o.schema.rep, AI o.schema.n, AI o.time, AS o.cart, AI o.kind, AS o.item, AI o.at_.scope, AS o.at_.group, AS o.at_.name, AI o.delta, AB o.has, AS o.text, .sl (o.drops.map TagD.cs)]] (poolT g g1 g2 g3 g4 g5 g6 p) (fun y os' => y = AI (putC p { o with id := ⟨2, n⟩ }) ∧ PoolAt g (putP p { o with id := ⟨2, n⟩ }) os') := by
  have htot := hok.tot
  have hr := oright_g { o with id := ⟨2, n⟩ }
  rw [h] at hr
  have hdr : o.drops.length ≤ 60 := rightO_drops (o := { o with id := ⟨2, n⟩ }) h
  refine ACo.of' (st0 := [⟨g, .box 114 [.ow 1 g1, .ow 2 g2, .ow 3 g3, .ow 4 g4, .ow 5 g5, .ow 6 g6]⟩, ⟨g1, owM true 47 15 ((p 0).map OpD.cs)⟩, ⟨g2, owM true 47 15 ((p 1).map OpD.cs)⟩, ⟨g3, owM true 47 15 ((p 2).map OpD.cs)⟩, ⟨g4, owM true 47 15 ((p 3).map OpD.cs)⟩, ⟨g5, owM true 47 15 ((p 4).map OpD.cs)⟩, ⟨g6, owM true 47 15 ((p 5).map OpD.cs)⟩, TK.mk 0 .off, TK.mk 0 .off, TK.mk 0 .off, TK.mk 0 .off]) 57 4 Try.func27 rfl 7 ?_
  refine AW.seq ?_
  refine AW.region ?_
  refine AL.op rfl (AOpB.op (op_box 7 rfl rfl rfl rfl rfl ?_))
  refine AL.no ?_
  refine AL.ra ?_
  refine AL.nil ?_
  change AW _ _ _ _ _
  refine AW.seq ?_
  refine AW.seq ?_
  refine AW.region ?_
  refine AL.rm ?_
  refine AL.r (rd_peq_bx rfl pt_41 rfl rfl rfl) ?_
  refine AL.nil ?_
  change AW _ _ _ _ _
  refine AW.cond_f rfl ?_
  refine AW.skip ?_
  change AW _ _ _ _ _
  refine AW.seq ?_
  refine AW.seq ?_
  refine AW.region ?_
  refine AL.r (rd_loadN_bx rfl ag_47 rfl rfl (Nat.le_of_ble_eq_true rfl) rfl) ?_
  refine AL.op rfl (AOpB.op (op_call (hr) rfl (by kernel_rfl) rfl (none) ?_))
  rintro r rfl
  refine AL.no ?_
  refine AL.r (rd_un rfl rfl (fun _ => rfl)) ?_
  refine AL.nil ?_
  change AW _ _ _ _ _
  refine AW.cond_f rfl ?_
  refine AW.skip ?_
  change AW _ _ _ _ _
  refine AW.seq ?_
  refine AW.region ?_
  refine AL.rm ?_
  refine AL.r (rd_faddr_bx rfl fo_47_0 rfl rfl ⟨_, _, rfl⟩) ?_
  refine AL.r (rd_loadN_bx rfl ag_44 rfl rfl (Nat.le_of_ble_eq_true rfl) rfl) ?_
  refine AL.op rfl (calloP (pfind'_2 p g g1 g2 g3 g4 g5 g6 hok n) [0, 1, 2, 3, 4, 5, 6] ?_)
  rintro y os' ⟨⟨x, hx, rfl⟩, rfl⟩
  refine AL.noP ?_
  refine AL.rm ?_
  refine AL.r (rd_extract rfl rfl rfl) ?_
  refine AL.r (rd_extract rfl rfl rfl) ?_
  refine AL.op rfl (AOpB.op (op_alloc 8 rfl ze_47 rfl ?_))
  refine AL.no ?_
  refine AL.op rfl (op_store_ rfl rfl rfl rfl rfl sz_47 ?_)
  refine AL.no ?_
  refine AL.ra ?_
  refine AL.nil ?_
  change AW _ _ _ _ _
  refine AW.seq ?_
  refine AW.seq ?_
  refine AW.region ?_
  refine AL.rm ?_
  refine AL.r (rd_bin rfl rfl rfl (fun _ => rfl)) ?_
  refine AL.nil ?_
  change AW _ _ _ _ _
  refine AW.cd rfl (fun h21 => ?_) (fun h21 => ?_)
  ·skip
   refine AW.seq ?_
   refine AW.seq ?_
   refine AW.region ?_
   refine AL.r (rd_loadN_bx rfl ag_47 rfl rfl (Nat.le_of_ble_eq_true rfl) rfl) ?_
   refine AL.r (rd_loadN_bx rfl ag_47 rfl rfl (Nat.le_of_ble_eq_true rfl) rfl) ?_
   refine AL.op rfl (AOpB.op (op_call (osame_c x { o with id := ⟨2, n⟩ }) rfl (by kernel_rfl) rfl (none) ?_))
   rintro r rfl
   refine AL.no ?_
   refine AL.nil ?_
   change AW _ _ _ _ _
   refine AW.cd rfl (fun h24 => ?_) (fun h24 => ?_)
   ·skip
    refine AW.seq ?_
    refine AW.region ?_
    refine AL.ra ?_
    refine AL.nil ?_
    change AW _ _ _ _ _
    refine AW.ret ?_
    repeat with_reducible first | refine thenA_ret ?_ | refine inBlockA_ret ?_
    with_reducible first | refine retO_ret ?_ | refine retO_normal ?_
    refine reso1P rfl (ResV.tmp rfl) rfl ?_
    exact lfP (put_7 h h21 (hx ▸ h24))
   ·skip
    refine AW.skip ?_
    change AW _ _ _ _ _
    refine AW.seq ?_
    refine AW.region ?_
    refine AL.ra ?_
    refine AL.nil ?_
    change AW _ _ _ _ _
    refine AW.ret ?_
    repeat with_reducible first | refine thenA_ret ?_ | refine inBlockA_ret ?_
    with_reducible first | refine retO_ret ?_ | refine retO_normal ?_
    refine reso1P rfl (ResV.tmp rfl) rfl ?_
    exact lfP (put_15 h h21 (hx ▸ h24))
  ·skip
   refine AW.skip ?_
   change AW _ _ _ _ _
   refine AW.seq ?_
   refine AW.freebox 3 rfl rfl (Nat.zero_lt_succ _) rfl ?_
   refine AW.norm (by simp only [anys, upds, offs, List.set_cons_zero, List.set_cons_succ]; rfl) (by (try simp only [anys, upds, offs, List.set_cons_zero, List.set_cons_succ]); (try rfl)) ?_
   refine AW.region ?_
   refine AL.r (rd_faddr_ep rfl fo_47_0 rfl) ?_
   refine AL.r (rd_faddr_ep rfl fo_44_0 rfl) ?_
   refine AL.r (rd_load_ep rfl ag_3 rfl rfl) ?_
   refine AL.r (rd_arith_sub rfl rfl rfl (rfl : _ = (1 : Int))) ?_
   refine AL.ra ?_
   refine AL.nil ?_
   change AW _ _ _ _ _
   refine AW.seq ?_
   refine AW.seq ?_
   refine AW.draw (by kernel_rfl) ?_
   refine AD.r 0 rfl (rd_faddr_ep rfl fo_47_0 rfl) rfl ?_
   refine AD.r 1 rfl (rd_faddr_ep rfl fo_44_1 rfl) rfl ?_
   refine AD.r 2 rfl (rd_load_ep rfl ag_3 rfl rfl) rfl ?_
   refine AD.r 3 rfl (rd_move rfl rfl) rfl ?_
   refine AD.r 4 rfl (rd_move rfl rfl) rfl ?_
   refine AD.r 5 rfl (rd_nilc_bx rfl rfl rfl) rfl ?_
   refine AD.r 6 rfl (rd_faddr_bx rfl fo_114_0 rfl rfl ⟨_, _, rfl⟩) rfl ?_
   refine AD.r 7 rfl (rd_iaddr_bx_ 1 rfl ar_112 rfl rfl rfl) rfl ?_
   refine AD.r 8 rfl (rd_load_bx rfl ag_50 rfl rfl rfl) rfl ?_
   refine AD.r 9 rfl (rd_len_owM rfl el_50 rfl rfl) rfl ?_
   refine AD.r 10 rfl (rd_arith_add rfl rfl rfl (by first | exact IntWalk.i64_in _ (by omega) | rfl)) rfl ?_
   refine AD.r 11 rfl (rd_bin rfl rfl rfl (fun _ => rfl)) rfl ?_
   refine AD.done (by kernel_rfl) ?_
   change AW _ _ _ _ _
   refine AW.cd rfl (fun h40 => ?_) (fun h40 => ?_)
   ·skip
    refine AW.seq ?_
    refine AW.region ?_
    refine AL.ra ?_
    refine AL.nil ?_
    change AW _ _ _ _ _
    refine AW.ret ?_
    repeat with_reducible first | refine thenA_ret ?_ | refine inBlockA_ret ?_
    with_reducible first | refine retO_ret ?_ | refine retO_normal ?_
    refine reso1P rfl (ResV.tmp rfl) rfl ?_
    exact lfP (put_17 h h21 h40)
   ·skip
    refine AW.skip ?_
    change AW _ _ _ _ _
    refine AW.seq ?_
    refine AW.seq ?_
    refine AW.region ?_
    refine AL.rm ?_
    refine AL.op rfl (calloP (plen_c p g g1 g2 g3 g4 g5 g6 (by unfold totP; omega)) [0, 1, 2, 3, 4, 5, 6] ?_)
    rintro y os' ⟨rfl, rfl⟩
    refine AL.noP ?_
    refine AL.r (rd_bin rfl rfl rfl (fun _ => rfl)) ?_
    refine AL.nil ?_
    change AW _ _ _ _ _
    refine AW.cd rfl (fun h43 => ?_) (fun h43 => ?_)
    ·skip
     refine AW.seq ?_
     refine AW.region ?_
     refine AL.ra ?_
     refine AL.nil ?_
     change AW _ _ _ _ _
     refine AW.ret ?_
     repeat with_reducible first | refine thenA_ret ?_ | refine inBlockA_ret ?_
     with_reducible first | refine retO_ret ?_ | refine retO_normal ?_
     refine reso1P rfl (ResV.tmp rfl) rfl ?_
     exact lfP (put_9 h h21 (by show n = _; exact h40) (by omega))
    ·skip
     refine AW.skip ?_
     change AW _ _ _ _ _
     refine AW.seq ?_
     refine AW.drawA (by kernel_rfl) ?_
     refine ADA.r 0 rfl (ARdP.a (rdP_move rfl rfl)) rfl ?_
     refine ADA.r 1 rfl (ARdP.a (rdP_move rfl rfl)) rfl ?_
     refine ADA.r 2 rfl (ARdP.a (rdP_move rfl rfl)) rfl ?_
     refine ADA.r 3 rfl (ARdP.a (rdP_move rfl rfl)) rfl ?_
     refine ADA.r 4 rfl (ARdP.a (rdP_nilc_bx rfl rfl rfl)) rfl ?_
     refine ADA.r 5 rfl (ARdP.a (rdP_faddr_bx rfl fo_114_0 rfl rfl ⟨_, _, rfl⟩)) rfl ?_
     refine ADA.r 6 rfl (ARdP.a (rdP_iaddr_bx_ 1 rfl ar_112 rfl rfl rfl)) rfl ?_
     refine ADA.r 8 rfl (rdA_loadN_ep rfl ag_47 rfl (Nat.le_of_ble_eq_true rfl) rfl) rfl ?_
     refine ADA.r 12 rfl (ARdP.a (rdP_nilc_bx rfl rfl rfl)) rfl ?_
     refine ADA.r 13 rfl (ARdP.a (rdP_faddr_bx rfl fo_114_0 rfl rfl ⟨_, _, rfl⟩)) rfl ?_
     refine ADA.b ?_
     refine ADB.all (is := [7, 9]) (by kernel_rfl) (by simp) ?_
     intro i hi
     simp only [List.mem_cons, List.not_mem_nil, or_false] at hi
     rcases hi with rfl | rfl
     ·skip
      refine ⟨_, rfl, rfl, AOpB.op (ARd.opB (rd_load_bx rfl ag_50 rfl rfl rfl) ?_)⟩
      refine ADB.n ?_
      refine ADB.mv 9 rfl (AOpB.op (op_call (oown_c { o with id := ⟨2, n⟩ } (by show o.drops.length ≤ _; omega)) rfl (by kernel_rfl) rfl (none) ?_))
      rintro r rfl
      refine ADB.n ?_
      refine ADB.mv 10 rfl (AOpB.op (bs_set rfl ap_50 ze_47 rfl rfl ?_))
      refine ADB.n ?_
      refine ADB.mv 11 rfl (op_appendM rfl ap_50 rfl rfl (src_s rfl) (by simp; omega) (by simp; omega) ?_)
      refine ADB.n ?_
      refine ADB.r 14 rfl (rdP_iaddr_bx_ 1 rfl ar_112 rfl rfl rfl) rfl ?_
      refine ADB.mv 15 rfl (op_storo rfl rfl rfl rfl rfl sz_50 ?_)
      refine ADB.n ?_
      refine ADB.done (by kernel_rfl) ?_
      change AW _ _ _ _ _
      refine AW.seq ?_
      refine AW.region ?_
      refine AL.ra ?_
      refine AL.nil ?_
      change AW _ _ _ _ _
      refine AW.ret ?_
      repeat with_reducible first | refine thenA_ret ?_ | refine inBlockA_ret ?_
      with_reducible first | refine retO_ret ?_ | refine retO_normal ?_
      refine reso1P rfl (ResV.tmp rfl) rfl ?_
      exact lfP (D' := updP p 1 (p 1 ++ [{ o with id := ⟨2, n⟩ }])) (put_0 h h21 (by show n = _; exact h40) (by omega)) rfl (by rw [poolT_push2]; rfl)
     ·skip
      refine ⟨_, rfl, rfl, AOpB.op (op_call (oown_c { o with id := ⟨2, n⟩ } (by show o.drops.length ≤ _; omega)) rfl (by kernel_rfl) rfl (none) ?_)⟩
      rintro r rfl
      refine ADB.n ?_
      refine ADB.all (is := [7, 10]) (by kernel_rfl) (by simp) ?_
      intro i hi
      simp only [List.mem_cons, List.not_mem_nil, or_false] at hi
      rcases hi with rfl | rfl
      ·skip
       refine ⟨_, rfl, rfl, AOpB.op (ARd.opB (rd_load_bx rfl ag_50 rfl rfl rfl) ?_)⟩
       refine ADB.n ?_
       refine ADB.mv 10 rfl (AOpB.op (bs_set rfl ap_50 ze_47 rfl rfl ?_))
       refine ADB.n ?_
       refine ADB.mv 11 rfl (op_appendM rfl ap_50 rfl rfl (src_s rfl) (by simp; omega) (by simp; omega) ?_)
       refine ADB.n ?_
       refine ADB.r 14 rfl (rdP_iaddr_bx_ 1 rfl ar_112 rfl rfl rfl) rfl ?_
       refine ADB.mv 15 rfl (op_storo rfl rfl rfl rfl rfl sz_50 ?_)
       refine ADB.n ?_
       refine ADB.done (by kernel_rfl) ?_
       change AW _ _ _ _ _
       refine AW.seq ?_
       refine AW.region ?_
       refine AL.ra ?_
       refine AL.nil ?_
       change AW _ _ _ _ _
       refine AW.ret ?_
       repeat with_reducible first | refine thenA_ret ?_ | refine inBlockA_ret ?_
       with_reducible first | refine retO_ret ?_ | refine retO_normal ?_
       refine reso1P rfl (ResV.tmp rfl) rfl ?_
       exact lfP (D' := updP p 1 (p 1 ++ [{ o with id := ⟨2, n⟩ }])) (put_0 h h21 (by show n = _; exact h40) (by omega)) rfl (by rw [poolT_push2]; rfl)
      ·skip
       refine ⟨_, rfl, rfl, AOpB.op (bs_set rfl ap_50 ze_47 rfl rfl ?_)⟩
       refine ADB.n ?_
       refine ADB.mv 7 rfl (AOpB.op (ARd.opB (rd_load_bx rfl ag_50 rfl rfl rfl) ?_))
       refine ADB.n ?_
       refine ADB.mv 11 rfl (op_appendM rfl ap_50 rfl rfl (src_s rfl) (by simp; omega) (by simp; omega) ?_)
       refine ADB.n ?_
       refine ADB.r 14 rfl (rdP_iaddr_bx_ 1 rfl ar_112 rfl rfl rfl) rfl ?_
       refine ADB.mv 15 rfl (op_storo rfl rfl rfl rfl rfl sz_50 ?_)
       refine ADB.n ?_
       refine ADB.done (by kernel_rfl) ?_
       change AW _ _ _ _ _
       refine AW.seq ?_
       refine AW.region ?_
       refine AL.ra ?_
       refine AL.nil ?_
       change AW _ _ _ _ _
       refine AW.ret ?_
       repeat with_reducible first | refine thenA_ret ?_ | refine inBlockA_ret ?_
       with_reducible first | refine retO_ret ?_ | refine retO_normal ?_
       refine reso1P rfl (ResV.tmp rfl) rfl ?_
       exact lfP (D' := updP p 1 (p 1 ++ [{ o with id := ⟨2, n⟩ }])) (put_0 h h21 (by show n = _; exact h40) (by omega)) rfl (by rw [poolT_push2]; rfl)
theorem pfind'_3 (n : Int) : ACo Try.prog 37 [.bx 0 g 0, .ag [AI 3, AI n]] (poolT g g1 g2 g3 g4 g5 g6 p) (fun y os' => (∃ x : OpD, x = (findP p ⟨3, n⟩).1 ∧ y = .tu [.ag [AI x.id.rep, AI x.id.n, AI x.schema.rep, AI x.schema.n, AI x.time, AS x.cart, AI x.kind, AS x.item, AI x.at_.scope, AS x.at_.group, AS x.at_.name, AI x.delta, AB x.has, AS x.text, .sl (x.drops.map TagD.cs)], AI (findP p ⟨3, n⟩).2]) ∧ os' = poolT g g1 g2 g3 g4 g5 g6 p) :=
  (pfind_3 p g g1 g2 g3 g4 g5 g6 hok n).mono fun y os' h => ⟨⟨_, rfl, h.1⟩, h.2⟩
set_option maxHeartbeats 1000000 in
theorem pput_3 (o : OpD) (n : Int) (h : rightO { o with id := ⟨3, n⟩ } = true) : ACo Try.prog 27 [.bx 0 g 0, .ag [AI 3, AI n, AI o.schema.rep, AI o.schema.n, AI o.time, AS o.cart, AI o.kind, AS o.item, AI o.at_.scope, AS o.at_.group, AS o.at_.name, AI o.delta, AB o.has, AS o.text, .sl (o.drops.map TagD.cs)]] (poolT g g1 g2 g3 g4 g5 g6 p) (fun y os' => y = AI (putC p { o with id := ⟨3, n⟩ }) ∧ PoolAt g (putP p { o with id := ⟨3, n⟩ }) os') := by
  have htot := hok.tot
  have hr := oright_g { o with id := ⟨3, n⟩ }
  rw [h] at hr
  have hdr : o.drops.length ≤ 60 := rightO_drops (o := { o with id := ⟨3, n⟩ }) h
  refine ACo.of' (st0 := [⟨g, .box 114 [.ow 1 g1, .ow 2 g2, .ow 3 g3, .ow 4 g4, .ow 5 g5, .ow 6 g6]⟩, ⟨g1, owM true 47 15 ((p 0).map OpD.cs)⟩, ⟨g2, owM true 47 15 ((p 1).map OpD.cs)⟩, ⟨g3, owM true 47 15 ((p 2).map OpD.cs)⟩, ⟨g4, owM true 47 15 ((p 3).map OpD.cs)⟩, ⟨g5, owM true 47 15 ((p 4).map OpD.cs)⟩, ⟨g6, owM true 47 15 ((p 5).map OpD.cs)⟩, TK.mk 0 .off, TK.mk 0 .off, TK.mk 0 .off, TK.mk 0 .off]) 57 4 Try.func27 rfl 7 ?_
  refine AW.seq ?_
  refine AW.region ?_
  refine AL.op rfl (AOpB.op (op_box 7 rfl rfl rfl rfl rfl ?_))
  refine AL.no ?_
  refine AL.ra ?_
  refine AL.nil ?_
  change AW _ _ _ _ _
  refine AW.seq ?_
  refine AW.seq ?_
  refine AW.region ?_
  refine AL.rm ?_
  refine AL.r (rd_peq_bx rfl pt_41 rfl rfl rfl) ?_
  refine AL.nil ?_
  change AW _ _ _ _ _
  refine AW.cond_f rfl ?_
  refine AW.skip ?_
  change AW _ _ _ _ _
  refine AW.seq ?_
  refine AW.seq ?_
  refine AW.region ?_
  refine AL.r (rd_loadN_bx rfl ag_47 rfl rfl (Nat.le_of_ble_eq_true rfl) rfl) ?_
  refine AL.op rfl (AOpB.op (op_call (hr) rfl (by kernel_rfl) rfl (none) ?_))
  rintro r rfl
  refine AL.no ?_
  refine AL.r (rd_un rfl rfl (fun _ => rfl)) ?_
  refine AL.nil ?_
  change AW _ _ _ _ _
  refine AW.cond_f rfl ?_
  refine AW.skip ?_
  change AW _ _ _ _ _
  refine AW.seq ?_
  refine AW.region ?_
  refine AL.rm ?_
  refine AL.r (rd_faddr_bx rfl fo_47_0 rfl rfl ⟨_, _, rfl⟩) ?_
  refine AL.r (rd_loadN_bx rfl ag_44 rfl rfl (Nat.le_of_ble_eq_true rfl) rfl) ?_
  refine AL.op rfl (calloP (pfind'_3 p g g1 g2 g3 g4 g5 g6 hok n) [0, 1, 2, 3, 4, 5, 6] ?_)
  rintro y os' ⟨⟨x, hx, rfl⟩, rfl⟩
  refine AL.noP ?_
  refine AL.rm ?_
  refine AL.r (rd_extract rfl rfl rfl) ?_
  refine AL.r (rd_extract rfl rfl rfl) ?_
  refine AL.op rfl (AOpB.op (op_alloc 8 rfl ze_47 rfl ?_))
  refine AL.no ?_
  refine AL.op rfl (op_store_ rfl rfl rfl rfl rfl sz_47 ?_)
  refine AL.no ?_
  refine AL.ra ?_
  refine AL.nil ?_
  change AW _ _ _ _ _
  refine AW.seq ?_
  refine AW.seq ?_
  refine AW.region ?_
  refine AL.rm ?_
  refine AL.r (rd_bin rfl rfl rfl (fun _ => rfl)) ?_
  refine AL.nil ?_
  change AW _ _ _ _ _
  refine AW.cd rfl (fun h21 => ?_) (fun h21 => ?_)
  ·skip
   refine AW.seq ?_
   refine AW.seq ?_
   refine AW.region ?_
   refine AL.r (rd_loadN_bx rfl ag_47 rfl rfl (Nat.le_of_ble_eq_true rfl) rfl) ?_
   refine AL.r (rd_loadN_bx rfl ag_47 rfl rfl (Nat.le_of_ble_eq_true rfl) rfl) ?_
   refine AL.op rfl (AOpB.op (op_call (osame_c x { o with id := ⟨3, n⟩ }) rfl (by kernel_rfl) rfl (none) ?_))
   rintro r rfl
   refine AL.no ?_
   refine AL.nil ?_
   change AW _ _ _ _ _
   refine AW.cd rfl (fun h24 => ?_) (fun h24 => ?_)
   ·skip
    refine AW.seq ?_
    refine AW.region ?_
    refine AL.ra ?_
    refine AL.nil ?_
    change AW _ _ _ _ _
    refine AW.ret ?_
    repeat with_reducible first | refine thenA_ret ?_ | refine inBlockA_ret ?_
    with_reducible first | refine retO_ret ?_ | refine retO_normal ?_
    refine reso1P rfl (ResV.tmp rfl) rfl ?_
    exact lfP (put_7 h h21 (hx ▸ h24))
   ·skip
    refine AW.skip ?_
    change AW _ _ _ _ _
    refine AW.seq ?_
    refine AW.region ?_
    refine AL.ra ?_
    refine AL.nil ?_
    change AW _ _ _ _ _
    refine AW.ret ?_
    repeat with_reducible first | refine thenA_ret ?_ | refine inBlockA_ret ?_
    with_reducible first | refine retO_ret ?_ | refine retO_normal ?_
    refine reso1P rfl (ResV.tmp rfl) rfl ?_
    exact lfP (put_15 h h21 (hx ▸ h24))
  ·skip
   refine AW.skip ?_
   change AW _ _ _ _ _
   refine AW.seq ?_
   refine AW.freebox 3 rfl rfl (Nat.zero_lt_succ _) rfl ?_
   refine AW.norm (by simp only [anys, upds, offs, List.set_cons_zero, List.set_cons_succ]; rfl) (by (try simp only [anys, upds, offs, List.set_cons_zero, List.set_cons_succ]); (try rfl)) ?_
   refine AW.region ?_
   refine AL.r (rd_faddr_ep rfl fo_47_0 rfl) ?_
   refine AL.r (rd_faddr_ep rfl fo_44_0 rfl) ?_
   refine AL.r (rd_load_ep rfl ag_3 rfl rfl) ?_
   refine AL.r (rd_arith_sub rfl rfl rfl (rfl : _ = (2 : Int))) ?_
   refine AL.ra ?_
   refine AL.nil ?_
   change AW _ _ _ _ _
   refine AW.seq ?_
   refine AW.seq ?_
   refine AW.draw (by kernel_rfl) ?_
   refine AD.r 0 rfl (rd_faddr_ep rfl fo_47_0 rfl) rfl ?_
   refine AD.r 1 rfl (rd_faddr_ep rfl fo_44_1 rfl) rfl ?_
   refine AD.r 2 rfl (rd_load_ep rfl ag_3 rfl rfl) rfl ?_
   refine AD.r 3 rfl (rd_move rfl rfl) rfl ?_
   refine AD.r 4 rfl (rd_move rfl rfl) rfl ?_
   refine AD.r 5 rfl (rd_nilc_bx rfl rfl rfl) rfl ?_
   refine AD.r 6 rfl (rd_faddr_bx rfl fo_114_0 rfl rfl ⟨_, _, rfl⟩) rfl ?_
   refine AD.r 7 rfl (rd_iaddr_bx_ 2 rfl ar_112 rfl rfl rfl) rfl ?_
   refine AD.r 8 rfl (rd_load_bx rfl ag_50 rfl rfl rfl) rfl ?_
   refine AD.r 9 rfl (rd_len_owM rfl el_50 rfl rfl) rfl ?_
   refine AD.r 10 rfl (rd_arith_add rfl rfl rfl (by first | exact IntWalk.i64_in _ (by omega) | rfl)) rfl ?_
   refine AD.r 11 rfl (rd_bin rfl rfl rfl (fun _ => rfl)) rfl ?_
   refine AD.done (by kernel_rfl) ?_
   change AW _ _ _ _ _
   refine AW.cd rfl (fun h40 => ?_) (fun h40 => ?_)
   ·skip
    refine AW.seq ?_
    refine AW.region ?_
    refine AL.ra ?_
    refine AL.nil ?_
    change AW _ _ _ _ _
    refine AW.ret ?_
    repeat with_reducible first | refine thenA_ret ?_ | refine inBlockA_ret ?_
    with_reducible first | refine retO_ret ?_ | refine retO_normal ?_
    refine reso1P rfl (ResV.tmp rfl) rfl ?_
    exact lfP (put_17 h h21 h40)
   ·skip
    refine AW.skip ?_
    change AW _ _ _ _ _
    refine AW.seq ?_
    refine AW.seq ?_
    refine AW.region ?_
    refine AL.rm ?_
    refine AL.op rfl (calloP (plen_c p g g1 g2 g3 g4 g5 g6 (by unfold totP; omega)) [0, 1, 2, 3, 4, 5, 6] ?_)
    rintro y os' ⟨rfl, rfl⟩
    refine AL.noP ?_
    refine AL.r (rd_bin rfl rfl rfl (fun _ => rfl)) ?_
    refine AL.nil ?_
    change AW _ _ _ _ _
    refine AW.cd rfl (fun h43 => ?_) (fun h43 => ?_)
    ·skip
     refine AW.seq ?_
     refine AW.region ?_
     refine AL.ra ?_
     refine AL.nil ?_
     change AW _ _ _ _ _
     refine AW.ret ?_
     repeat with_reducible first | refine thenA_ret ?_ | refine inBlockA_ret ?_
     with_reducible first | refine retO_ret ?_ | refine retO_normal ?_
     refine reso1P rfl (ResV.tmp rfl) rfl ?_
     exact lfP (put_9 h h21 (by show n = _; exact h40) (by omega))
    ·skip
     refine AW.skip ?_
     change AW _ _ _ _ _
     refine AW.seq ?_
     refine AW.drawA (by kernel_rfl) ?_
     refine ADA.r 0 rfl (ARdP.a (rdP_move rfl rfl)) rfl ?_
     refine ADA.r 1 rfl (ARdP.a (rdP_move rfl rfl)) rfl ?_
     refine ADA.r 2 rfl (ARdP.a (rdP_move rfl rfl)) rfl ?_
     refine ADA.r 3 rfl (ARdP.a (rdP_move rfl rfl)) rfl ?_
     refine ADA.r 4 rfl (ARdP.a (rdP_nilc_bx rfl rfl rfl)) rfl ?_
     refine ADA.r 5 rfl (ARdP.a (rdP_faddr_bx rfl fo_114_0 rfl rfl ⟨_, _, rfl⟩)) rfl ?_
     refine ADA.r 6 rfl (ARdP.a (rdP_iaddr_bx_ 2 rfl ar_112 rfl rfl rfl)) rfl ?_
     refine ADA.r 8 rfl (rdA_loadN_ep rfl ag_47 rfl (Nat.le_of_ble_eq_true rfl) rfl) rfl ?_
     refine ADA.r 12 rfl (ARdP.a (rdP_nilc_bx rfl rfl rfl)) rfl ?_
     refine ADA.r 13 rfl (ARdP.a (rdP_faddr_bx rfl fo_114_0 rfl rfl ⟨_, _, rfl⟩)) rfl ?_
     refine ADA.b ?_
     refine ADB.all (is := [7, 9]) (by kernel_rfl) (by simp) ?_
     intro i hi
     simp only [List.mem_cons, List.not_mem_nil, or_false] at hi
     rcases hi with rfl | rfl
     ·skip
      refine ⟨_, rfl, rfl, AOpB.op (ARd.opB (rd_load_bx rfl ag_50 rfl rfl rfl) ?_)⟩
      refine ADB.n ?_
      refine ADB.mv 9 rfl (AOpB.op (op_call (oown_c { o with id := ⟨3, n⟩ } (by show o.drops.length ≤ _; omega)) rfl (by kernel_rfl) rfl (none) ?_))
      rintro r rfl
      refine ADB.n ?_
      refine ADB.mv 10 rfl (AOpB.op (bs_set rfl ap_50 ze_47 rfl rfl ?_))
      refine ADB.n ?_
      refine ADB.mv 11 rfl (op_appendM rfl ap_50 rfl rfl (src_s rfl) (by simp; omega) (by simp; omega) ?_)
      refine ADB.n ?_
      refine ADB.r 14 rfl (rdP_iaddr_bx_ 2 rfl ar_112 rfl rfl rfl) rfl ?_
      refine ADB.mv 15 rfl (op_storo rfl rfl rfl rfl rfl sz_50 ?_)
      refine ADB.n ?_
      refine ADB.done (by kernel_rfl) ?_
      change AW _ _ _ _ _
      refine AW.seq ?_
      refine AW.region ?_
      refine AL.ra ?_
      refine AL.nil ?_
      change AW _ _ _ _ _
      refine AW.ret ?_
      repeat with_reducible first | refine thenA_ret ?_ | refine inBlockA_ret ?_
      with_reducible first | refine retO_ret ?_ | refine retO_normal ?_
      refine reso1P rfl (ResV.tmp rfl) rfl ?_
      exact lfP (D' := updP p 2 (p 2 ++ [{ o with id := ⟨3, n⟩ }])) (put_0 h h21 (by show n = _; exact h40) (by omega)) rfl (by rw [poolT_push3]; rfl)
     ·skip
      refine ⟨_, rfl, rfl, AOpB.op (op_call (oown_c { o with id := ⟨3, n⟩ } (by show o.drops.length ≤ _; omega)) rfl (by kernel_rfl) rfl (none) ?_)⟩
      rintro r rfl
      refine ADB.n ?_
      refine ADB.all (is := [7, 10]) (by kernel_rfl) (by simp) ?_
      intro i hi
      simp only [List.mem_cons, List.not_mem_nil, or_false] at hi
      rcases hi with rfl | rfl
      ·skip
       refine ⟨_, rfl, rfl, AOpB.op (ARd.opB (rd_load_bx rfl ag_50 rfl rfl rfl) ?_)⟩
       refine ADB.n ?_
       refine ADB.mv 10 rfl (AOpB.op (bs_set rfl ap_50 ze_47 rfl rfl ?_))
       refine ADB.n ?_
       refine ADB.mv 11 rfl (op_appendM rfl ap_50 rfl rfl (src_s rfl) (by simp; omega) (by simp; omega) ?_)
       refine ADB.n ?_
       refine ADB.r 14 rfl (rdP_iaddr_bx_ 2 rfl ar_112 rfl rfl rfl) rfl ?_
       refine ADB.mv 15 rfl (op_storo rfl rfl rfl rfl rfl sz_50 ?_)
       refine ADB.n ?_
       refine ADB.done (by kernel_rfl) ?_
       change AW _ _ _ _ _
       refine AW.seq ?_
       refine AW.region ?_
       refine AL.ra ?_
       refine AL.nil ?_
       change AW _ _ _ _ _
       refine AW.ret ?_
       repeat with_reducible first | refine thenA_ret ?_ | refine inBlockA_ret ?_
       with_reducible first | refine retO_ret ?_ | refine retO_normal ?_
       refine reso1P rfl (ResV.tmp rfl) rfl ?_
       exact lfP (D' := updP p 2 (p 2 ++ [{ o with id := ⟨3, n⟩ }])) (put_0 h h21 (by show n = _; exact h40) (by omega)) rfl (by rw [poolT_push3]; rfl)
      ·skip
       refine ⟨_, rfl, rfl, AOpB.op (bs_set rfl ap_50 ze_47 rfl rfl ?_)⟩
       refine ADB.n ?_
       refine ADB.mv 7 rfl (AOpB.op (ARd.opB (rd_load_bx rfl ag_50 rfl rfl rfl) ?_))
       refine ADB.n ?_
       refine ADB.mv 11 rfl (op_appendM rfl ap_50 rfl rfl (src_s rfl) (by simp; omega) (by simp; omega) ?_)
       refine ADB.n ?_
       refine ADB.r 14 rfl (rdP_iaddr_bx_ 2 rfl ar_112 rfl rfl rfl) rfl ?_
       refine ADB.mv 15 rfl (op_storo rfl rfl rfl rfl rfl sz_50 ?_)
       refine ADB.n ?_
       refine ADB.done (by kernel_rfl) ?_
       change AW _ _ _ _ _
       refine AW.seq ?_
       refine AW.region ?_
       refine AL.ra ?_
       refine AL.nil ?_
       change AW _ _ _ _ _
       refine AW.ret ?_
       repeat with_reducible first | refine thenA_ret ?_ | refine inBlockA_ret ?_
       with_reducible first | refine retO_ret ?_ | refine retO_normal ?_
       refine reso1P rfl (ResV.tmp rfl) rfl ?_
       exact lfP (D' := updP p 2 (p 2 ++ [{ o with id := ⟨3, n⟩ }])) (put_0 h h21 (by show n = _; exact h40) (by omega)) rfl (by rw [poolT_push3]; rfl)
theorem pfind'_4 (n : Int) : ACo Try.prog 37 [.bx 0 g 0, .ag [AI 4, AI n]] (poolT g g1 g2 g3 g4 g5 g6 p) (fun y os' => (∃ x : OpD, x = (findP p ⟨4, n⟩).1 ∧ y = .tu [.ag [AI x.id.rep, AI x.id.n, AI x.schema.rep, AI x.schema.n, AI x.time, AS x.cart, AI x.kind, AS x.item, AI x.at_.scope, AS x.at_.group, AS x.at_.name, AI x.delta, AB x.has, AS x.text, .sl (x.drops.map TagD.cs)], AI (findP p ⟨4, n⟩).2]) ∧ os' = poolT g g1 g2 g3 g4 g5 g6 p) :=
  (pfind_4 p g g1 g2 g3 g4 g5 g6 hok n).mono fun y os' h => ⟨⟨_, rfl, h.1⟩, h.2⟩
set_option maxHeartbeats 1000000 in
theorem pput_4 (o : OpD) (n : Int) (h : rightO { o with id := ⟨4, n⟩ } = true) : ACo Try.prog 27 [.bx 0 g 0, .ag [AI 4, AI n, AI o.schema.rep, AI o.schema.n, AI o.time, AS o.cart, AI o.kind, AS o.item, AI o.at_.scope, AS o.at_.group, AS o.at_.name, AI o.delta, AB o.has, AS o.text, .sl (o.drops.map TagD.cs)]] (poolT g g1 g2 g3 g4 g5 g6 p) (fun y os' => y = AI (putC p { o with id := ⟨4, n⟩ }) ∧ PoolAt g (putP p { o with id := ⟨4, n⟩ }) os') := by
  have htot := hok.tot
  have hr := oright_g { o with id := ⟨4, n⟩ }
  rw [h] at hr
  have hdr : o.drops.length ≤ 60 := rightO_drops (o := { o with id := ⟨4, n⟩ }) h
  refine ACo.of' (st0 := [⟨g, .box 114 [.ow 1 g1, .ow 2 g2, .ow 3 g3, .ow 4 g4, .ow 5 g5, .ow 6 g6]⟩, ⟨g1, owM true 47 15 ((p 0).map OpD.cs)⟩, ⟨g2, owM true 47 15 ((p 1).map OpD.cs)⟩, ⟨g3, owM true 47 15 ((p 2).map OpD.cs)⟩, ⟨g4, owM true 47 15 ((p 3).map OpD.cs)⟩, ⟨g5, owM true 47 15 ((p 4).map OpD.cs)⟩, ⟨g6, owM true 47 15 ((p 5).map OpD.cs)⟩, TK.mk 0 .off, TK.mk 0 .off, TK.mk 0 .off, TK.mk 0 .off]) 57 4 Try.func27 rfl 7 ?_
  refine AW.seq ?_
  refine AW.region ?_
  refine AL.op rfl (AOpB.op (op_box 7 rfl rfl rfl rfl rfl ?_))
  refine AL.no ?_
  refine AL.ra ?_
  refine AL.nil ?_
  change AW _ _ _ _ _
  refine AW.seq ?_
  refine AW.seq ?_
  refine AW.region ?_
  refine AL.rm ?_
  refine AL.r (rd_peq_bx rfl pt_41 rfl rfl rfl) ?_
  refine AL.nil ?_
  change AW _ _ _ _ _
  refine AW.cond_f rfl ?_
  refine AW.skip ?_
  change AW _ _ _ _ _
  refine AW.seq ?_
  refine AW.seq ?_
  refine AW.region ?_
  refine AL.r (rd_loadN_bx rfl ag_47 rfl rfl (Nat.le_of_ble_eq_true rfl) rfl) ?_
  refine AL.op rfl (AOpB.op (op_call (hr) rfl (by kernel_rfl) rfl (none) ?_))
  rintro r rfl
  refine AL.no ?_
  refine AL.r (rd_un rfl rfl (fun _ => rfl)) ?_
  refine AL.nil ?_
  change AW _ _ _ _ _
  refine AW.cond_f rfl ?_
  refine AW.skip ?_
  change AW _ _ _ _ _
  refine AW.seq ?_
  refine AW.region ?_
  refine AL.rm ?_
  refine AL.r (rd_faddr_bx rfl fo_47_0 rfl rfl ⟨_, _, rfl⟩) ?_
  refine AL.r (rd_loadN_bx rfl ag_44 rfl rfl (Nat.le_of_ble_eq_true rfl) rfl) ?_
  refine AL.op rfl (calloP (pfind'_4 p g g1 g2 g3 g4 g5 g6 hok n) [0, 1, 2, 3, 4, 5, 6] ?_)
  rintro y os' ⟨⟨x, hx, rfl⟩, rfl⟩
  refine AL.noP ?_
  refine AL.rm ?_
  refine AL.r (rd_extract rfl rfl rfl) ?_
  refine AL.r (rd_extract rfl rfl rfl) ?_
  refine AL.op rfl (AOpB.op (op_alloc 8 rfl ze_47 rfl ?_))
  refine AL.no ?_
  refine AL.op rfl (op_store_ rfl rfl rfl rfl rfl sz_47 ?_)
  refine AL.no ?_
  refine AL.ra ?_
  refine AL.nil ?_
  change AW _ _ _ _ _
  refine AW.seq ?_
  refine AW.seq ?_
  refine AW.region ?_
  refine AL.rm ?_
  refine AL.r (rd_bin rfl rfl rfl (fun _ => rfl)) ?_
  refine AL.nil ?_
  change AW _ _ _ _ _
  refine AW.cd rfl (fun h21 => ?_) (fun h21 => ?_)
  ·skip
   refine AW.seq ?_
   refine AW.seq ?_
   refine AW.region ?_
   refine AL.r (rd_loadN_bx rfl ag_47 rfl rfl (Nat.le_of_ble_eq_true rfl) rfl) ?_
   refine AL.r (rd_loadN_bx rfl ag_47 rfl rfl (Nat.le_of_ble_eq_true rfl) rfl) ?_
   refine AL.op rfl (AOpB.op (op_call (osame_c x { o with id := ⟨4, n⟩ }) rfl (by kernel_rfl) rfl (none) ?_))
   rintro r rfl
   refine AL.no ?_
   refine AL.nil ?_
   change AW _ _ _ _ _
   refine AW.cd rfl (fun h24 => ?_) (fun h24 => ?_)
   ·skip
    refine AW.seq ?_
    refine AW.region ?_
    refine AL.ra ?_
    refine AL.nil ?_
    change AW _ _ _ _ _
    refine AW.ret ?_
    repeat with_reducible first | refine thenA_ret ?_ | refine inBlockA_ret ?_
    with_reducible first | refine retO_ret ?_ | refine retO_normal ?_
    refine reso1P rfl (ResV.tmp rfl) rfl ?_
    exact lfP (put_7 h h21 (hx ▸ h24))
   ·skip
    refine AW.skip ?_
    change AW _ _ _ _ _
    refine AW.seq ?_
    refine AW.region ?_
    refine AL.ra ?_
    refine AL.nil ?_
    change AW _ _ _ _ _
    refine AW.ret ?_
    repeat with_reducible first | refine thenA_ret ?_ | refine inBlockA_ret ?_
    with_reducible first | refine retO_ret ?_ | refine retO_normal ?_
    refine reso1P rfl (ResV.tmp rfl) rfl ?_
    exact lfP (put_15 h h21 (hx ▸ h24))
  ·skip
   refine AW.skip ?_
   change AW _ _ _ _ _
   refine AW.seq ?_
   refine AW.freebox 3 rfl rfl (Nat.zero_lt_succ _) rfl ?_
   refine AW.norm (by simp only [anys, upds, offs, List.set_cons_zero, List.set_cons_succ]; rfl) (by (try simp only [anys, upds, offs, List.set_cons_zero, List.set_cons_succ]); (try rfl)) ?_
   refine AW.region ?_
   refine AL.r (rd_faddr_ep rfl fo_47_0 rfl) ?_
   refine AL.r (rd_faddr_ep rfl fo_44_0 rfl) ?_
   refine AL.r (rd_load_ep rfl ag_3 rfl rfl) ?_
   refine AL.r (rd_arith_sub rfl rfl rfl (rfl : _ = (3 : Int))) ?_
   refine AL.ra ?_
   refine AL.nil ?_
   change AW _ _ _ _ _
   refine AW.seq ?_
   refine AW.seq ?_
   refine AW.draw (by kernel_rfl) ?_
   refine AD.r 0 rfl (rd_faddr_ep rfl fo_47_0 rfl) rfl ?_
   refine AD.r 1 rfl (rd_faddr_ep rfl fo_44_1 rfl) rfl ?_
   refine AD.r 2 rfl (rd_load_ep rfl ag_3 rfl rfl) rfl ?_
   refine AD.r 3 rfl (rd_move rfl rfl) rfl ?_
   refine AD.r 4 rfl (rd_move rfl rfl) rfl ?_
   refine AD.r 5 rfl (rd_nilc_bx rfl rfl rfl) rfl ?_
   refine AD.r 6 rfl (rd_faddr_bx rfl fo_114_0 rfl rfl ⟨_, _, rfl⟩) rfl ?_
   refine AD.r 7 rfl (rd_iaddr_bx_ 3 rfl ar_112 rfl rfl rfl) rfl ?_
   refine AD.r 8 rfl (rd_load_bx rfl ag_50 rfl rfl rfl) rfl ?_
   refine AD.r 9 rfl (rd_len_owM rfl el_50 rfl rfl) rfl ?_
   refine AD.r 10 rfl (rd_arith_add rfl rfl rfl (by first | exact IntWalk.i64_in _ (by omega) | rfl)) rfl ?_
   refine AD.r 11 rfl (rd_bin rfl rfl rfl (fun _ => rfl)) rfl ?_
   refine AD.done (by kernel_rfl) ?_
   change AW _ _ _ _ _
   refine AW.cd rfl (fun h40 => ?_) (fun h40 => ?_)
   ·skip
    refine AW.seq ?_
    refine AW.region ?_
    refine AL.ra ?_
    refine AL.nil ?_
    change AW _ _ _ _ _
    refine AW.ret ?_
    repeat with_reducible first | refine thenA_ret ?_ | refine inBlockA_ret ?_
    with_reducible first | refine retO_ret ?_ | refine retO_normal ?_
    refine reso1P rfl (ResV.tmp rfl) rfl ?_
    exact lfP (put_17 h h21 h40)
   ·skip
    refine AW.skip ?_
    change AW _ _ _ _ _
    refine AW.seq ?_
    refine AW.seq ?_
    refine AW.region ?_
    refine AL.rm ?_
    refine AL.op rfl (calloP (plen_c p g g1 g2 g3 g4 g5 g6 (by unfold totP; omega)) [0, 1, 2, 3, 4, 5, 6] ?_)
    rintro y os' ⟨rfl, rfl⟩
    refine AL.noP ?_
    refine AL.r (rd_bin rfl rfl rfl (fun _ => rfl)) ?_
    refine AL.nil ?_
    change AW _ _ _ _ _
    refine AW.cd rfl (fun h43 => ?_) (fun h43 => ?_)
    ·skip
     refine AW.seq ?_
     refine AW.region ?_
     refine AL.ra ?_
     refine AL.nil ?_
     change AW _ _ _ _ _
     refine AW.ret ?_
     repeat with_reducible first | refine thenA_ret ?_ | refine inBlockA_ret ?_
     with_reducible first | refine retO_ret ?_ | refine retO_normal ?_
     refine reso1P rfl (ResV.tmp rfl) rfl ?_
     exact lfP (put_9 h h21 (by show n = _; exact h40) (by omega))
    ·skip
     refine AW.skip ?_
     change AW _ _ _ _ _
     refine AW.seq ?_
     refine AW.drawA (by kernel_rfl) ?_
     refine ADA.r 0 rfl (ARdP.a (rdP_move rfl rfl)) rfl ?_
     refine ADA.r 1 rfl (ARdP.a (rdP_move rfl rfl)) rfl ?_
     refine ADA.r 2 rfl (ARdP.a (rdP_move rfl rfl)) rfl ?_
     refine ADA.r 3 rfl (ARdP.a (rdP_move rfl rfl)) rfl ?_
     refine ADA.r 4 rfl (ARdP.a (rdP_nilc_bx rfl rfl rfl)) rfl ?_
     refine ADA.r 5 rfl (ARdP.a (rdP_faddr_bx rfl fo_114_0 rfl rfl ⟨_, _, rfl⟩)) rfl ?_
     refine ADA.r 6 rfl (ARdP.a (rdP_iaddr_bx_ 3 rfl ar_112 rfl rfl rfl)) rfl ?_
     refine ADA.r 8 rfl (rdA_loadN_ep rfl ag_47 rfl (Nat.le_of_ble_eq_true rfl) rfl) rfl ?_
     refine ADA.r 12 rfl (ARdP.a (rdP_nilc_bx rfl rfl rfl)) rfl ?_
     refine ADA.r 13 rfl (ARdP.a (rdP_faddr_bx rfl fo_114_0 rfl rfl ⟨_, _, rfl⟩)) rfl ?_
     refine ADA.b ?_
     refine ADB.all (is := [7, 9]) (by kernel_rfl) (by simp) ?_
     intro i hi
     simp only [List.mem_cons, List.not_mem_nil, or_false] at hi
     rcases hi with rfl | rfl
     ·skip
      refine ⟨_, rfl, rfl, AOpB.op (ARd.opB (rd_load_bx rfl ag_50 rfl rfl rfl) ?_)⟩
      refine ADB.n ?_
      refine ADB.mv 9 rfl (AOpB.op (op_call (oown_c { o with id := ⟨4, n⟩ } (by show o.drops.length ≤ _; omega)) rfl (by kernel_rfl) rfl (none) ?_))
      rintro r rfl
      refine ADB.n ?_
      refine ADB.mv 10 rfl (AOpB.op (bs_set rfl ap_50 ze_47 rfl rfl ?_))
      refine ADB.n ?_
      refine ADB.mv 11 rfl (op_appendM rfl ap_50 rfl rfl (src_s rfl) (by simp; omega) (by simp; omega) ?_)
      refine ADB.n ?_
      refine ADB.r 14 rfl (rdP_iaddr_bx_ 3 rfl ar_112 rfl rfl rfl) rfl ?_
      refine ADB.mv 15 rfl (op_storo rfl rfl rfl rfl rfl sz_50 ?_)
      refine ADB.n ?_
      refine ADB.done (by kernel_rfl) ?_
      change AW _ _ _ _ _
      refine AW.seq ?_
      refine AW.region ?_
      refine AL.ra ?_
      refine AL.nil ?_
      change AW _ _ _ _ _
      refine AW.ret ?_
      repeat with_reducible first | refine thenA_ret ?_ | refine inBlockA_ret ?_
      with_reducible first | refine retO_ret ?_ | refine retO_normal ?_
      refine reso1P rfl (ResV.tmp rfl) rfl ?_
      exact lfP (D' := updP p 3 (p 3 ++ [{ o with id := ⟨4, n⟩ }])) (put_0 h h21 (by show n = _; exact h40) (by omega)) rfl (by rw [poolT_push4]; rfl)
     ·skip
      refine ⟨_, rfl, rfl, AOpB.op (op_call (oown_c { o with id := ⟨4, n⟩ } (by show o.drops.length ≤ _; omega)) rfl (by kernel_rfl) rfl (none) ?_)⟩
      rintro r rfl
      refine ADB.n ?_
      refine ADB.all (is := [7, 10]) (by kernel_rfl) (by simp) ?_
      intro i hi
      simp only [List.mem_cons, List.not_mem_nil, or_false] at hi
      rcases hi with rfl | rfl
      ·skip
       refine ⟨_, rfl, rfl, AOpB.op (ARd.opB (rd_load_bx rfl ag_50 rfl rfl rfl) ?_)⟩
       refine ADB.n ?_
       refine ADB.mv 10 rfl (AOpB.op (bs_set rfl ap_50 ze_47 rfl rfl ?_))
       refine ADB.n ?_
       refine ADB.mv 11 rfl (op_appendM rfl ap_50 rfl rfl (src_s rfl) (by simp; omega) (by simp; omega) ?_)
       refine ADB.n ?_
       refine ADB.r 14 rfl (rdP_iaddr_bx_ 3 rfl ar_112 rfl rfl rfl) rfl ?_
       refine ADB.mv 15 rfl (op_storo rfl rfl rfl rfl rfl sz_50 ?_)
       refine ADB.n ?_
       refine ADB.done (by kernel_rfl) ?_
       change AW _ _ _ _ _
       refine AW.seq ?_
       refine AW.region ?_
       refine AL.ra ?_
       refine AL.nil ?_
       change AW _ _ _ _ _
       refine AW.ret ?_
       repeat with_reducible first | refine thenA_ret ?_ | refine inBlockA_ret ?_
       with_reducible first | refine retO_ret ?_ | refine retO_normal ?_
       refine reso1P rfl (ResV.tmp rfl) rfl ?_
       exact lfP (D' := updP p 3 (p 3 ++ [{ o with id := ⟨4, n⟩ }])) (put_0 h h21 (by show n = _; exact h40) (by omega)) rfl (by rw [poolT_push4]; rfl)
      ·skip
       refine ⟨_, rfl, rfl, AOpB.op (bs_set rfl ap_50 ze_47 rfl rfl ?_)⟩
       refine ADB.n ?_
       refine ADB.mv 7 rfl (AOpB.op (ARd.opB (rd_load_bx rfl ag_50 rfl rfl rfl) ?_))
       refine ADB.n ?_
       refine ADB.mv 11 rfl (op_appendM rfl ap_50 rfl rfl (src_s rfl) (by simp; omega) (by simp; omega) ?_)
       refine ADB.n ?_
       refine ADB.r 14 rfl (rdP_iaddr_bx_ 3 rfl ar_112 rfl rfl rfl) rfl ?_
       refine ADB.mv 15 rfl (op_storo rfl rfl rfl rfl rfl sz_50 ?_)
       refine ADB.n ?_
       refine ADB.done (by kernel_rfl) ?_
       change AW _ _ _ _ _
       refine AW.seq ?_
       refine AW.region ?_
       refine AL.ra ?_
       refine AL.nil ?_
       change AW _ _ _ _ _
       refine AW.ret ?_
       repeat with_reducible first | refine thenA_ret ?_ | refine inBlockA_ret ?_
       with_reducible first | refine retO_ret ?_ | refine retO_normal ?_
       refine reso1P rfl (ResV.tmp rfl) rfl ?_
       exact lfP (D' := updP p 3 (p 3 ++ [{ o with id := ⟨4, n⟩ }])) (put_0 h h21 (by show n = _; exact h40) (by omega)) rfl (by rw [poolT_push4]; rfl)
theorem pfind'_5 (n : Int) : ACo Try.prog 37 [.bx 0 g 0, .ag [AI 5, AI n]] (poolT g g1 g2 g3 g4 g5 g6 p) (fun y os' => (∃ x : OpD, x = (findP p ⟨5, n⟩).1 ∧ y = .tu [.ag [AI x.id.rep, AI x.id.n, AI x.schema.rep, AI x.schema.n, AI x.time, AS x.cart, AI x.kind, AS x.item, AI x.at_.scope, AS x.at_.group, AS x.at_.name, AI x.delta, AB x.has, AS x.text, .sl (x.drops.map TagD.cs)], AI (findP p ⟨5, n⟩).2]) ∧ os' = poolT g g1 g2 g3 g4 g5 g6 p) :=
  (pfind_5 p g g1 g2 g3 g4 g5 g6 hok n).mono fun y os' h => ⟨⟨_, rfl, h.1⟩, h.2⟩
set_option maxHeartbeats 1000000 in
theorem pput_5 (o : OpD) (n : Int) (h : rightO { o with id := ⟨5, n⟩ } = true) : ACo Try.prog 27 [.bx 0 g 0, .ag [AI 5, AI n, AI o.schema.rep, AI o.schema.n, AI o.time, AS o.cart, AI o.kind, AS o.item, AI o.at_.scope, AS o.at_.group, AS o.at_.name, AI o.delta, AB o.has, AS o.text, .sl (o.drops.map TagD.cs)]] (poolT g g1 g2 g3 g4 g5 g6 p) (fun y os' => y = AI (putC p { o with id := ⟨5, n⟩ }) ∧ PoolAt g (putP p { o with id := ⟨5, n⟩ }) os') := by
  have htot := hok.tot
  have hr := oright_g { o with id := ⟨5, n⟩ }
  rw [h] at hr
  have hdr : o.drops.length ≤ 60 := rightO_drops (o := { o with id := ⟨5, n⟩ }) h
  refine ACo.of' (st0 := [⟨g, .box 114 [.ow 1 g1, .ow 2 g2, .ow 3 g3, .ow 4 g4, .ow 5 g5, .ow 6 g6]⟩, ⟨g1, owM true 47 15 ((p 0).map OpD.cs)⟩, ⟨g2, owM true 47 15 ((p 1).map OpD.cs)⟩, ⟨g3, owM true 47 15 ((p 2).map OpD.cs)⟩, ⟨g4, owM true 47 15 ((p 3).map OpD.cs)⟩, ⟨g5, owM true 47 15 ((p 4).map OpD.cs)⟩, ⟨g6, owM true 47 15 ((p 5).map OpD.cs)⟩, TK.mk 0 .off, TK.mk 0 .off, TK.mk 0 .off, TK.mk 0 .off]) 57 4 Try.func27 rfl 7 ?_
  refine AW.seq ?_
  refine AW.region ?_
  refine AL.op rfl (AOpB.op (op_box 7 rfl rfl rfl rfl rfl ?_))
  refine AL.no ?_
  refine AL.ra ?_
  refine AL.nil ?_
  change AW _ _ _ _ _
  refine AW.seq ?_
  refine AW.seq ?_
  refine AW.region ?_
  refine AL.rm ?_
  refine AL.r (rd_peq_bx rfl pt_41 rfl rfl rfl) ?_
  refine AL.nil ?_
  change AW _ _ _ _ _
  refine AW.cond_f rfl ?_
  refine AW.skip ?_
  change AW _ _ _ _ _
  refine AW.seq ?_
  refine AW.seq ?_
  refine AW.region ?_
  refine AL.r (rd_loadN_bx rfl ag_47 rfl rfl (Nat.le_of_ble_eq_true rfl) rfl) ?_
  refine AL.op rfl (AOpB.op (op_call (hr) rfl (by kernel_rfl) rfl (none) ?_))
  rintro r rfl
  refine AL.no ?_
  refine AL.r (rd_un rfl rfl (fun _ => rfl)) ?_
  refine AL.nil ?_
  change AW _ _ _ _ _
  refine AW.cond_f rfl ?_
  refine AW.skip ?_
  change AW _ _ _ _ _
  refine AW.seq ?_
  refine AW.region ?_
  refine AL.rm ?_
  refine AL.r (rd_faddr_bx rfl fo_47_0 rfl rfl ⟨_, _, rfl⟩) ?_
  refine AL.r (rd_loadN_bx rfl ag_44 rfl rfl (Nat.le_of_ble_eq_true rfl) rfl) ?_
  refine AL.op rfl (calloP (pfind'_5 p g g1 g2 g3 g4 g5 g6 hok n) [0, 1, 2, 3, 4, 5, 6] ?_)
  rintro y os' ⟨⟨x, hx, rfl⟩, rfl⟩
  refine AL.noP ?_
  refine AL.rm ?_
  refine AL.r (rd_extract rfl rfl rfl) ?_
  refine AL.r (rd_extract rfl rfl rfl) ?_
  refine AL.op rfl (AOpB.op (op_alloc 8 rfl ze_47 rfl ?_))
  refine AL.no ?_
  refine AL.op rfl (op_store_ rfl rfl rfl rfl rfl sz_47 ?_)
  refine AL.no ?_
  refine AL.ra ?_
  refine AL.nil ?_
  change AW _ _ _ _ _
  refine AW.seq ?_
  refine AW.seq ?_
  refine AW.region ?_
  refine AL.rm ?_
  refine AL.r (rd_bin rfl rfl rfl (fun _ => rfl)) ?_
  refine AL.nil ?_
  change AW _ _ _ _ _
  refine AW.cd rfl (fun h21 => ?_) (fun h21 => ?_)
  ·skip
   refine AW.seq ?_
   refine AW.seq ?_
   refine AW.region ?_
   refine AL.r (rd_loadN_bx rfl ag_47 rfl rfl (Nat.le_of_ble_eq_true rfl) rfl) ?_
   refine AL.r (rd_loadN_bx rfl ag_47 rfl rfl (Nat.le_of_ble_eq_true rfl) rfl) ?_
   refine AL.op rfl (AOpB.op (op_call (osame_c x { o with id := ⟨5, n⟩ }) rfl (by kernel_rfl) rfl (none) ?_))
   rintro r rfl
   refine AL.no ?_
   refine AL.nil ?_
   change AW _ _ _ _ _
   refine AW.cd rfl (fun h24 => ?_) (fun h24 => ?_)
   ·skip
    refine AW.seq ?_
    refine AW.region ?_
    refine AL.ra ?_
    refine AL.nil ?_
    change AW _ _ _ _ _
    refine AW.ret ?_
    repeat with_reducible first | refine thenA_ret ?_ | refine inBlockA_ret ?_
    with_reducible first | refine retO_ret ?_ | refine retO_normal ?_
    refine reso1P rfl (ResV.tmp rfl) rfl ?_
    exact lfP (put_7 h h21 (hx ▸ h24))
   ·skip
    refine AW.skip ?_
    change AW _ _ _ _ _
    refine AW.seq ?_
    refine AW.region ?_
    refine AL.ra ?_
    refine AL.nil ?_
    change AW _ _ _ _ _
    refine AW.ret ?_
    repeat with_reducible first | refine thenA_ret ?_ | refine inBlockA_ret ?_
    with_reducible first | refine retO_ret ?_ | refine retO_normal ?_
    refine reso1P rfl (ResV.tmp rfl) rfl ?_
    exact lfP (put_15 h h21 (hx ▸ h24))
  ·skip
   refine AW.skip ?_
   change AW _ _ _ _ _
   refine AW.seq ?_
   refine AW.freebox 3 rfl rfl (Nat.zero_lt_succ _) rfl ?_
   refine AW.norm (by simp only [anys, upds, offs, List.set_cons_zero, List.set_cons_succ]; rfl) (by (try simp only [anys, upds, offs, List.set_cons_zero, List.set_cons_succ]); (try rfl)) ?_
   refine AW.region ?_
   refine AL.r (rd_faddr_ep rfl fo_47_0 rfl) ?_
   refine AL.r (rd_faddr_ep rfl fo_44_0 rfl) ?_
   refine AL.r (rd_load_ep rfl ag_3 rfl rfl) ?_
   refine AL.r (rd_arith_sub rfl rfl rfl (rfl : _ = (4 : Int))) ?_
   refine AL.ra ?_
   refine AL.nil ?_
   change AW _ _ _ _ _
   refine AW.seq ?_
   refine AW.seq ?_
   refine AW.draw (by kernel_rfl) ?_
   refine AD.r 0 rfl (rd_faddr_ep rfl fo_47_0 rfl) rfl ?_
   refine AD.r 1 rfl (rd_faddr_ep rfl fo_44_1 rfl) rfl ?_
   refine AD.r 2 rfl (rd_load_ep rfl ag_3 rfl rfl) rfl ?_
   refine AD.r 3 rfl (rd_move rfl rfl) rfl ?_
   refine AD.r 4 rfl (rd_move rfl rfl) rfl ?_
   refine AD.r 5 rfl (rd_nilc_bx rfl rfl rfl) rfl ?_
   refine AD.r 6 rfl (rd_faddr_bx rfl fo_114_0 rfl rfl ⟨_, _, rfl⟩) rfl ?_
   refine AD.r 7 rfl (rd_iaddr_bx_ 4 rfl ar_112 rfl rfl rfl) rfl ?_
   refine AD.r 8 rfl (rd_load_bx rfl ag_50 rfl rfl rfl) rfl ?_
   refine AD.r 9 rfl (rd_len_owM rfl el_50 rfl rfl) rfl ?_
   refine AD.r 10 rfl (rd_arith_add rfl rfl rfl (by first | exact IntWalk.i64_in _ (by omega) | rfl)) rfl ?_
   refine AD.r 11 rfl (rd_bin rfl rfl rfl (fun _ => rfl)) rfl ?_
   refine AD.done (by kernel_rfl) ?_
   change AW _ _ _ _ _
   refine AW.cd rfl (fun h40 => ?_) (fun h40 => ?_)
   ·skip
    refine AW.seq ?_
    refine AW.region ?_
    refine AL.ra ?_
    refine AL.nil ?_
    change AW _ _ _ _ _
    refine AW.ret ?_
    repeat with_reducible first | refine thenA_ret ?_ | refine inBlockA_ret ?_
    with_reducible first | refine retO_ret ?_ | refine retO_normal ?_
    refine reso1P rfl (ResV.tmp rfl) rfl ?_
    exact lfP (put_17 h h21 h40)
   ·skip
    refine AW.skip ?_
    change AW _ _ _ _ _
    refine AW.seq ?_
    refine AW.seq ?_
    refine AW.region ?_
    refine AL.rm ?_
    refine AL.op rfl (calloP (plen_c p g g1 g2 g3 g4 g5 g6 (by unfold totP; omega)) [0, 1, 2, 3, 4, 5, 6] ?_)
    rintro y os' ⟨rfl, rfl⟩
    refine AL.noP ?_
    refine AL.r (rd_bin rfl rfl rfl (fun _ => rfl)) ?_
    refine AL.nil ?_
    change AW _ _ _ _ _
    refine AW.cd rfl (fun h43 => ?_) (fun h43 => ?_)
    ·skip
     refine AW.seq ?_
     refine AW.region ?_
     refine AL.ra ?_
     refine AL.nil ?_
     change AW _ _ _ _ _
     refine AW.ret ?_
     repeat with_reducible first | refine thenA_ret ?_ | refine inBlockA_ret ?_
     with_reducible first | refine retO_ret ?_ | refine retO_normal ?_
     refine reso1P rfl (ResV.tmp rfl) rfl ?_
     exact lfP (put_9 h h21 (by show n = _; exact h40) (by omega))
    ·skip
     refine AW.skip ?_
     change AW _ _ _ _ _
     refine AW.seq ?_
     refine AW.drawA (by kernel_rfl) ?_
     refine ADA.r 0 rfl (ARdP.a (rdP_move rfl rfl)) rfl ?_
     refine ADA.r 1 rfl (ARdP.a (rdP_move rfl rfl)) rfl ?_
     refine ADA.r 2 rfl (ARdP.a (rdP_move rfl rfl)) rfl ?_
     refine ADA.r 3 rfl (ARdP.a (rdP_move rfl rfl)) rfl ?_
     refine ADA.r 4 rfl (ARdP.a (rdP_nilc_bx rfl rfl rfl)) rfl ?_
     refine ADA.r 5 rfl (ARdP.a (rdP_faddr_bx rfl fo_114_0 rfl rfl ⟨_, _, rfl⟩)) rfl ?_
     refine ADA.r 6 rfl (ARdP.a (rdP_iaddr_bx_ 4 rfl ar_112 rfl rfl rfl)) rfl ?_
     refine ADA.r 8 rfl (rdA_loadN_ep rfl ag_47 rfl (Nat.le_of_ble_eq_true rfl) rfl) rfl ?_
     refine ADA.r 12 rfl (ARdP.a (rdP_nilc_bx rfl rfl rfl)) rfl ?_
     refine ADA.r 13 rfl (ARdP.a (rdP_faddr_bx rfl fo_114_0 rfl rfl ⟨_, _, rfl⟩)) rfl ?_
     refine ADA.b ?_
     refine ADB.all (is := [7, 9]) (by kernel_rfl) (by simp) ?_
     intro i hi
     simp only [List.mem_cons, List.not_mem_nil, or_false] at hi
     rcases hi with rfl | rfl
     ·skip
      refine ⟨_, rfl, rfl, AOpB.op (ARd.opB (rd_load_bx rfl ag_50 rfl rfl rfl) ?_)⟩
      refine ADB.n ?_
      refine ADB.mv 9 rfl (AOpB.op (op_call (oown_c { o with id := ⟨5, n⟩ } (by show o.drops.length ≤ _; omega)) rfl (by kernel_rfl) rfl (none) ?_))
      rintro r rfl
      refine ADB.n ?_
      refine ADB.mv 10 rfl (AOpB.op (bs_set rfl ap_50 ze_47 rfl rfl ?_))
      refine ADB.n ?_
      refine ADB.mv 11 rfl (op_appendM rfl ap_50 rfl rfl (src_s rfl) (by simp; omega) (by simp; omega) ?_)
      refine ADB.n ?_
      refine ADB.r 14 rfl (rdP_iaddr_bx_ 4 rfl ar_112 rfl rfl rfl) rfl ?_
      refine ADB.mv 15 rfl (op_storo rfl rfl rfl rfl rfl sz_50 ?_)
      refine ADB.n ?_
      refine ADB.done (by kernel_rfl) ?_
      change AW _ _ _ _ _
      refine AW.seq ?_
      refine AW.region ?_
      refine AL.ra ?_
      refine AL.nil ?_
      change AW _ _ _ _ _
      refine AW.ret ?_
      repeat with_reducible first | refine thenA_ret ?_ | refine inBlockA_ret ?_
      with_reducible first | refine retO_ret ?_ | refine retO_normal ?_
      refine reso1P rfl (ResV.tmp rfl) rfl ?_
      exact lfP (D' := updP p 4 (p 4 ++ [{ o with id := ⟨5, n⟩ }])) (put_0 h h21 (by show n = _; exact h40) (by omega)) rfl (by rw [poolT_push5]; rfl)
     ·skip
      refine ⟨_, rfl, rfl, AOpB.op (op_call (oown_c { o with id := ⟨5, n⟩ } (by show o.drops.length ≤ _; omega)) rfl (by kernel_rfl) rfl (none) ?_)⟩
      rintro r rfl
      refine ADB.n ?_
      refine ADB.all (is := [7, 10]) (by kernel_rfl) (by simp) ?_
      intro i hi
      simp only [List.mem_cons, List.not_mem_nil, or_false] at hi
      rcases hi with rfl | rfl
      ·skip
       refine ⟨_, rfl, rfl, AOpB.op (ARd.opB (rd_load_bx rfl ag_50 rfl rfl rfl) ?_)⟩
       refine ADB.n ?_
       refine ADB.mv 10 rfl (AOpB.op (bs_set rfl ap_50 ze_47 rfl rfl ?_))
       refine ADB.n ?_
       refine ADB.mv 11 rfl (op_appendM rfl ap_50 rfl rfl (src_s rfl) (by simp; omega) (by simp; omega) ?_)
       refine ADB.n ?_
       refine ADB.r 14 rfl (rdP_iaddr_bx_ 4 rfl ar_112 rfl rfl rfl) rfl ?_
       refine ADB.mv 15 rfl (op_storo rfl rfl rfl rfl rfl sz_50 ?_)
       refine ADB.n ?_
       refine ADB.done (by kernel_rfl) ?_
       change AW _ _ _ _ _
       refine AW.seq ?_
       refine AW.region ?_
       refine AL.ra ?_
       refine AL.nil ?_
       change AW _ _ _ _ _
       refine AW.ret ?_
       repeat with_reducible first | refine thenA_ret ?_ | refine inBlockA_ret ?_
       with_reducible first | refine retO_ret ?_ | refine retO_normal ?_
       refine reso1P rfl (ResV.tmp rfl) rfl ?_
       exact lfP (D' := updP p 4 (p 4 ++ [{ o with id := ⟨5, n⟩ }])) (put_0 h h21 (by show n = _; exact h40) (by omega)) rfl (by rw [poolT_push5]; rfl)
      ·skip
       refine ⟨_, rfl, rfl, AOpB.op (bs_set rfl ap_50 ze_47 rfl rfl ?_)⟩
       refine ADB.n ?_
       refine ADB.mv 7 rfl (AOpB.op (ARd.opB (rd_load_bx rfl ag_50 rfl rfl rfl) ?_))
       refine ADB.n ?_
       refine ADB.mv 11 rfl (op_appendM rfl ap_50 rfl rfl (src_s rfl) (by simp; omega) (by simp; omega) ?_)
       refine ADB.n ?_
       refine ADB.r 14 rfl (rdP_iaddr_bx_ 4 rfl ar_112 rfl rfl rfl) rfl ?_
       refine ADB.mv 15 rfl (op_storo rfl rfl rfl rfl rfl sz_50 ?_)
       refine ADB.n ?_
       refine ADB.done (by kernel_rfl) ?_
       change AW _ _ _ _ _
       refine AW.seq ?_
       refine AW.region ?_
       refine AL.ra ?_
       refine AL.nil ?_
       change AW _ _ _ _ _
       refine AW.ret ?_
       repeat with_reducible first | refine thenA_ret ?_ | refine inBlockA_ret ?_
       with_reducible first | refine retO_ret ?_ | refine retO_normal ?_
       refine reso1P rfl (ResV.tmp rfl) rfl ?_
       exact lfP (D' := updP p 4 (p 4 ++ [{ o with id := ⟨5, n⟩ }])) (put_0 h h21 (by show n = _; exact h40) (by omega)) rfl (by rw [poolT_push5]; rfl)
theorem pfind'_6 (n : Int) : ACo Try.prog 37 [.bx 0 g 0, .ag [AI 6, AI n]] (poolT g g1 g2 g3 g4 g5 g6 p) (fun y os' => (∃ x : OpD, x = (findP p ⟨6, n⟩).1 ∧ y = .tu [.ag [AI x.id.rep, AI x.id.n, AI x.schema.rep, AI x.schema.n, AI x.time, AS x.cart, AI x.kind, AS x.item, AI x.at_.scope, AS x.at_.group, AS x.at_.name, AI x.delta, AB x.has, AS x.text, .sl (x.drops.map TagD.cs)], AI (findP p ⟨6, n⟩).2]) ∧ os' = poolT g g1 g2 g3 g4 g5 g6 p) :=
  (pfind_6 p g g1 g2 g3 g4 g5 g6 hok n).mono fun y os' h => ⟨⟨_, rfl, h.1⟩, h.2⟩
set_option maxHeartbeats 1000000 in
theorem pput_6 (o : OpD) (n : Int) (h : rightO { o with id := ⟨6, n⟩ } = true) : ACo Try.prog 27 [.bx 0 g 0, .ag [AI 6, AI n, AI o.schema.rep, AI o.schema.n, AI o.time, AS o.cart, AI o.kind, AS o.item, AI o.at_.scope, AS o.at_.group, AS o.at_.name, AI o.delta, AB o.has, AS o.text, .sl (o.drops.map TagD.cs)]] (poolT g g1 g2 g3 g4 g5 g6 p) (fun y os' => y = AI (putC p { o with id := ⟨6, n⟩ }) ∧ PoolAt g (putP p { o with id := ⟨6, n⟩ }) os') := by
  have htot := hok.tot
  have hr := oright_g { o with id := ⟨6, n⟩ }
  rw [h] at hr
  have hdr : o.drops.length ≤ 60 := rightO_drops (o := { o with id := ⟨6, n⟩ }) h
  refine ACo.of' (st0 := [⟨g, .box 114 [.ow 1 g1, .ow 2 g2, .ow 3 g3, .ow 4 g4, .ow 5 g5, .ow 6 g6]⟩, ⟨g1, owM true 47 15 ((p 0).map OpD.cs)⟩, ⟨g2, owM true 47 15 ((p 1).map OpD.cs)⟩, ⟨g3, owM true 47 15 ((p 2).map OpD.cs)⟩, ⟨g4, owM true 47 15 ((p 3).map OpD.cs)⟩, ⟨g5, owM true 47 15 ((p 4).map OpD.cs)⟩, ⟨g6, owM true 47 15 ((p 5).map OpD.cs)⟩, TK.mk 0 .off, TK.mk 0 .off, TK.mk 0 .off, TK.mk 0 .off]) 57 4 Try.func27 rfl 7 ?_
  refine AW.seq ?_
  refine AW.region ?_
  refine AL.op rfl (AOpB.op (op_box 7 rfl rfl rfl rfl rfl ?_))
  refine AL.no ?_
  refine AL.ra ?_
  refine AL.nil ?_
  change AW _ _ _ _ _
  refine AW.seq ?_
  refine AW.seq ?_
  refine AW.region ?_
  refine AL.rm ?_
  refine AL.r (rd_peq_bx rfl pt_41 rfl rfl rfl) ?_
  refine AL.nil ?_
  change AW _ _ _ _ _
  refine AW.cond_f rfl ?_
  refine AW.skip ?_
  change AW _ _ _ _ _
  refine AW.seq ?_
  refine AW.seq ?_
  refine AW.region ?_
  refine AL.r (rd_loadN_bx rfl ag_47 rfl rfl (Nat.le_of_ble_eq_true rfl) rfl) ?_
  refine AL.op rfl (AOpB.op (op_call (hr) rfl (by kernel_rfl) rfl (none) ?_))
  rintro r rfl
  refine AL.no ?_
  refine AL.r (rd_un rfl rfl (fun _ => rfl)) ?_
  refine AL.nil ?_
  change AW _ _ _ _ _
  refine AW.cond_f rfl ?_
  refine AW.skip ?_
  change AW _ _ _ _ _
  refine AW.seq ?_
  refine AW.region ?_
  refine AL.rm ?_
  refine AL.r (rd_faddr_bx rfl fo_47_0 rfl rfl ⟨_, _, rfl⟩) ?_
  refine AL.r (rd_loadN_bx rfl ag_44 rfl rfl (Nat.le_of_ble_eq_true rfl) rfl) ?_
  refine AL.op rfl (calloP (pfind'_6 p g g1 g2 g3 g4 g5 g6 hok n) [0, 1, 2, 3, 4, 5, 6] ?_)
  rintro y os' ⟨⟨x, hx, rfl⟩, rfl⟩
  refine AL.noP ?_
  refine AL.rm ?_
  refine AL.r (rd_extract rfl rfl rfl) ?_
  refine AL.r (rd_extract rfl rfl rfl) ?_
  refine AL.op rfl (AOpB.op (op_alloc 8 rfl ze_47 rfl ?_))
  refine AL.no ?_
  refine AL.op rfl (op_store_ rfl rfl rfl rfl rfl sz_47 ?_)
  refine AL.no ?_
  refine AL.ra ?_
  refine AL.nil ?_
  change AW _ _ _ _ _
  refine AW.seq ?_
  refine AW.seq ?_
  refine AW.region ?_
  refine AL.rm ?_
  refine AL.r (rd_bin rfl rfl rfl (fun _ => rfl)) ?_
  refine AL.nil ?_
  change AW _ _ _ _ _
  refine AW.cd rfl (fun h21 => ?_) (fun h21 => ?_)
  ·skip
   refine AW.seq ?_
   refine AW.seq ?_
   refine AW.region ?_
   refine AL.r (rd_loadN_bx rfl ag_47 rfl rfl (Nat.le_of_ble_eq_true rfl) rfl) ?_
   refine AL.r (rd_loadN_bx rfl ag_47 rfl rfl (Nat.le_of_ble_eq_true rfl) rfl) ?_
   refine AL.op rfl (AOpB.op (op_call (osame_c x { o with id := ⟨6, n⟩ }) rfl (by kernel_rfl) rfl (none) ?_))
   rintro r rfl
   refine AL.no ?_
   refine AL.nil ?_
   change AW _ _ _ _ _
   refine AW.cd rfl (fun h24 => ?_) (fun h24 => ?_)
   ·skip
    refine AW.seq ?_
    refine AW.region ?_
    refine AL.ra ?_
    refine AL.nil ?_
    change AW _ _ _ _ _
    refine AW.ret ?_
    repeat with_reducible first | refine thenA_ret ?_ | refine inBlockA_ret ?_
    with_reducible first | refine retO_ret ?_ | refine retO_normal ?_
    refine reso1P rfl (ResV.tmp rfl) rfl ?_
    exact lfP (put_7 h h21 (hx ▸ h24))
   ·skip
    refine AW.skip ?_
    change AW _ _ _ _ _
    refine AW.seq ?_
    refine AW.region ?_
    refine AL.ra ?_
    refine AL.nil ?_
    change AW _ _ _ _ _
    refine AW.ret ?_
    repeat with_reducible first | refine thenA_ret ?_ | refine inBlockA_ret ?_
    with_reducible first | refine retO_ret ?_ | refine retO_normal ?_
    refine reso1P rfl (ResV.tmp rfl) rfl ?_
    exact lfP (put_15 h h21 (hx ▸ h24))
  ·skip
   refine AW.skip ?_
   change AW _ _ _ _ _
   refine AW.seq ?_
   refine AW.freebox 3 rfl rfl (Nat.zero_lt_succ _) rfl ?_
   refine AW.norm (by simp only [anys, upds, offs, List.set_cons_zero, List.set_cons_succ]; rfl) (by (try simp only [anys, upds, offs, List.set_cons_zero, List.set_cons_succ]); (try rfl)) ?_
   refine AW.region ?_
   refine AL.r (rd_faddr_ep rfl fo_47_0 rfl) ?_
   refine AL.r (rd_faddr_ep rfl fo_44_0 rfl) ?_
   refine AL.r (rd_load_ep rfl ag_3 rfl rfl) ?_
   refine AL.r (rd_arith_sub rfl rfl rfl (rfl : _ = (5 : Int))) ?_
   refine AL.ra ?_
   refine AL.nil ?_
   change AW _ _ _ _ _
   refine AW.seq ?_
   refine AW.seq ?_
   refine AW.draw (by kernel_rfl) ?_
   refine AD.r 0 rfl (rd_faddr_ep rfl fo_47_0 rfl) rfl ?_
   refine AD.r 1 rfl (rd_faddr_ep rfl fo_44_1 rfl) rfl ?_
   refine AD.r 2 rfl (rd_load_ep rfl ag_3 rfl rfl) rfl ?_
   refine AD.r 3 rfl (rd_move rfl rfl) rfl ?_
   refine AD.r 4 rfl (rd_move rfl rfl) rfl ?_
   refine AD.r 5 rfl (rd_nilc_bx rfl rfl rfl) rfl ?_
   refine AD.r 6 rfl (rd_faddr_bx rfl fo_114_0 rfl rfl ⟨_, _, rfl⟩) rfl ?_
   refine AD.r 7 rfl (rd_iaddr_bx_ 5 rfl ar_112 rfl rfl rfl) rfl ?_
   refine AD.r 8 rfl (rd_load_bx rfl ag_50 rfl rfl rfl) rfl ?_
   refine AD.r 9 rfl (rd_len_owM rfl el_50 rfl rfl) rfl ?_
   refine AD.r 10 rfl (rd_arith_add rfl rfl rfl (by first | exact IntWalk.i64_in _ (by omega) | rfl)) rfl ?_
   refine AD.r 11 rfl (rd_bin rfl rfl rfl (fun _ => rfl)) rfl ?_
   refine AD.done (by kernel_rfl) ?_
   change AW _ _ _ _ _
   refine AW.cd rfl (fun h40 => ?_) (fun h40 => ?_)
   ·skip
    refine AW.seq ?_
    refine AW.region ?_
    refine AL.ra ?_
    refine AL.nil ?_
    change AW _ _ _ _ _
    refine AW.ret ?_
    repeat with_reducible first | refine thenA_ret ?_ | refine inBlockA_ret ?_
    with_reducible first | refine retO_ret ?_ | refine retO_normal ?_
    refine reso1P rfl (ResV.tmp rfl) rfl ?_
    exact lfP (put_17 h h21 h40)
   ·skip
    refine AW.skip ?_
    change AW _ _ _ _ _
    refine AW.seq ?_
    refine AW.seq ?_
    refine AW.region ?_
    refine AL.rm ?_
    refine AL.op rfl (calloP (plen_c p g g1 g2 g3 g4 g5 g6 (by unfold totP; omega)) [0, 1, 2, 3, 4, 5, 6] ?_)
    rintro y os' ⟨rfl, rfl⟩
    refine AL.noP ?_
    refine AL.r (rd_bin rfl rfl rfl (fun _ => rfl)) ?_
    refine AL.nil ?_
    change AW _ _ _ _ _
    refine AW.cd rfl (fun h43 => ?_) (fun h43 => ?_)
    ·skip
     refine AW.seq ?_
     refine AW.region ?_
     refine AL.ra ?_
     refine AL.nil ?_
     change AW _ _ _ _ _
     refine AW.ret ?_
     repeat with_reducible first | refine thenA_ret ?_ | refine inBlockA_ret ?_
     with_reducible first | refine retO_ret ?_ | refine retO_normal ?_
     refine reso1P rfl (ResV.tmp rfl) rfl ?_
     exact lfP (put_9 h h21 (by show n = _; exact h40) (by omega))
    ·skip
     refine AW.skip ?_
     change AW _ _ _ _ _
     refine AW.seq ?_
     refine AW.drawA (by kernel_rfl) ?_
     refine ADA.r 0 rfl (ARdP.a (rdP_move rfl rfl)) rfl ?_
     refine ADA.r 1 rfl (ARdP.a (rdP_move rfl rfl)) rfl ?_
     refine ADA.r 2 rfl (ARdP.a (rdP_move rfl rfl)) rfl ?_
     refine ADA.r 3 rfl (ARdP.a (rdP_move rfl rfl)) rfl ?_
     refine ADA.r 4 rfl (ARdP.a (rdP_nilc_bx rfl rfl rfl)) rfl ?_
     refine ADA.r 5 rfl (ARdP.a (rdP_faddr_bx rfl fo_114_0 rfl rfl ⟨_, _, rfl⟩)) rfl ?_
     refine ADA.r 6 rfl (ARdP.a (rdP_iaddr_bx_ 5 rfl ar_112 rfl rfl rfl)) rfl ?_
     refine ADA.r 8 rfl (rdA_loadN_ep rfl ag_47 rfl (Nat.le_of_ble_eq_true rfl) rfl) rfl ?_
     refine ADA.r 12 rfl (ARdP.a (rdP_nilc_bx rfl rfl rfl)) rfl ?_
     refine ADA.r 13 rfl (ARdP.a (rdP_faddr_bx rfl fo_114_0 rfl rfl ⟨_, _, rfl⟩)) rfl ?_
     refine ADA.b ?_
     refine ADB.all (is := [7, 9]) (by kernel_rfl) (by simp) ?_
     intro i hi
     simp only [List.mem_cons, List.not_mem_nil, or_false] at hi
     rcases hi with rfl | rfl
     ·skip
      refine ⟨_, rfl, rfl, AOpB.op (ARd.opB (rd_load_bx rfl ag_50 rfl rfl rfl) ?_)⟩
      refine ADB.n ?_
      refine ADB.mv 9 rfl (AOpB.op (op_call (oown_c { o with id := ⟨6, n⟩ } (by show o.drops.length ≤ _; omega)) rfl (by kernel_rfl) rfl (none) ?_))
      rintro r rfl
      refine ADB.n ?_
      refine ADB.mv 10 rfl (AOpB.op (bs_set rfl ap_50 ze_47 rfl rfl ?_))
      refine ADB.n ?_
      refine ADB.mv 11 rfl (op_appendM rfl ap_50 rfl rfl (src_s rfl) (by simp; omega) (by simp; omega) ?_)
      refine ADB.n ?_
      refine ADB.r 14 rfl (rdP_iaddr_bx_ 5 rfl ar_112 rfl rfl rfl) rfl ?_
      refine ADB.mv 15 rfl (op_storo rfl rfl rfl rfl rfl sz_50 ?_)
      refine ADB.n ?_
      refine ADB.done (by kernel_rfl) ?_
      change AW _ _ _ _ _
      refine AW.seq ?_
      refine AW.region ?_
      refine AL.ra ?_
      refine AL.nil ?_
      change AW _ _ _ _ _
      refine AW.ret ?_
      repeat with_reducible first | refine thenA_ret ?_ | refine inBlockA_ret ?_
      with_reducible first | refine retO_ret ?_ | refine retO_normal ?_
      refine reso1P rfl (ResV.tmp rfl) rfl ?_
      exact lfP (D' := updP p 5 (p 5 ++ [{ o with id := ⟨6, n⟩ }])) (put_0 h h21 (by show n = _; exact h40) (by omega)) rfl (by rw [poolT_push6]; rfl)
     ·skip
      refine ⟨_, rfl, rfl, AOpB.op (op_call (oown_c { o with id := ⟨6, n⟩ } (by show o.drops.length ≤ _; omega)) rfl (by kernel_rfl) rfl (none) ?_)⟩
      rintro r rfl
      refine ADB.n ?_
      refine ADB.all (is := [7, 10]) (by kernel_rfl) (by simp) ?_
      intro i hi
      simp only [List.mem_cons, List.not_mem_nil, or_false] at hi
      rcases hi with rfl | rfl
      ·skip
       refine ⟨_, rfl, rfl, AOpB.op (ARd.opB (rd_load_bx rfl ag_50 rfl rfl rfl) ?_)⟩
       refine ADB.n ?_
       refine ADB.mv 10 rfl (AOpB.op (bs_set rfl ap_50 ze_47 rfl rfl ?_))
       refine ADB.n ?_
       refine ADB.mv 11 rfl (op_appendM rfl ap_50 rfl rfl (src_s rfl) (by simp; omega) (by simp; omega) ?_)
       refine ADB.n ?_
       refine ADB.r 14 rfl (rdP_iaddr_bx_ 5 rfl ar_112 rfl rfl rfl) rfl ?_
       refine ADB.mv 15 rfl (op_storo rfl rfl rfl rfl rfl sz_50 ?_)
       refine ADB.n ?_
       refine ADB.done (by kernel_rfl) ?_
       change AW _ _ _ _ _
       refine AW.seq ?_
       refine AW.region ?_
       refine AL.ra ?_
       refine AL.nil ?_
       change AW _ _ _ _ _
       refine AW.ret ?_
       repeat with_reducible first | refine thenA_ret ?_ | refine inBlockA_ret ?_
       with_reducible first | refine retO_ret ?_ | refine retO_normal ?_
       refine reso1P rfl (ResV.tmp rfl) rfl ?_
       exact lfP (D' := updP p 5 (p 5 ++ [{ o with id := ⟨6, n⟩ }])) (put_0 h h21 (by show n = _; exact h40) (by omega)) rfl (by rw [poolT_push6]; rfl)
      ·skip
       refine ⟨_, rfl, rfl, AOpB.op (bs_set rfl ap_50 ze_47 rfl rfl ?_)⟩
       refine ADB.n ?_
       refine ADB.mv 7 rfl (AOpB.op (ARd.opB (rd_load_bx rfl ag_50 rfl rfl rfl) ?_))
       refine ADB.n ?_
       refine ADB.mv 11 rfl (op_appendM rfl ap_50 rfl rfl (src_s rfl) (by simp; omega) (by simp; omega) ?_)
       refine ADB.n ?_
       refine ADB.r 14 rfl (rdP_iaddr_bx_ 5 rfl ar_112 rfl rfl rfl) rfl ?_
       refine ADB.mv 15 rfl (op_storo rfl rfl rfl rfl rfl sz_50 ?_)
       refine ADB.n ?_
       refine ADB.done (by kernel_rfl) ?_
       change AW _ _ _ _ _
       refine AW.seq ?_
       refine AW.region ?_
       refine AL.ra ?_
       refine AL.nil ?_
       change AW _ _ _ _ _
       refine AW.ret ?_
       repeat with_reducible first | refine thenA_ret ?_ | refine inBlockA_ret ?_
       with_reducible first | refine retO_ret ?_ | refine retO_normal ?_
       refine reso1P rfl (ResV.tmp rfl) rfl ?_
       exact lfP (D' := updP p 5 (p 5 ++ [{ o with id := ⟨6, n⟩ }])) (put_0 h h21 (by show n = _; exact h40) (by omega)) rfl (by rw [poolT_push6]; rfl)
theorem pput_c (o : OpD) : ACo Try.prog 27 [.bx 0 g 0, o.av] (poolT g g1 g2 g3 g4 g5 g6 p) (fun y os' => y = AI (putC p o) ∧ PoolAt g (putP p o) os') := by
  cases h : rightO o with
  | false => exact pput_f p g g1 g2 g3 g4 g5 g6 o h
  | true =>
    have ht : tagB o.id = true := (by unfold rightO at h; simp only [Bool.and_eq_true] at h; exact h.1.1.1.1.1.1.1.1.1.1.2)
    obtain ⟨⟨r, n⟩, b, c, d, e, f, a, k, l, m, q⟩ := o
    have := (tagB_rep ht).1
    simp only at this
    rcases this with rfl | rfl | rfl | rfl | rfl | rfl
    · exact pput_1 p g g1 g2 g3 g4 g5 g6 hok ⟨⟨1, n⟩, b, c, d, e, f, a, k, l, m, q⟩ n h
    · exact pput_2 p g g1 g2 g3 g4 g5 g6 hok ⟨⟨2, n⟩, b, c, d, e, f, a, k, l, m, q⟩ n h
    · exact pput_3 p g g1 g2 g3 g4 g5 g6 hok ⟨⟨3, n⟩, b, c, d, e, f, a, k, l, m, q⟩ n h
    · exact pput_4 p g g1 g2 g3 g4 g5 g6 hok ⟨⟨4, n⟩, b, c, d, e, f, a, k, l, m, q⟩ n h
    · exact pput_5 p g g1 g2 g3 g4 g5 g6 hok ⟨⟨5, n⟩, b, c, d, e, f, a, k, l, m, q⟩ n h
    · exact pput_6 p g g1 g2 g3 g4 g5 g6 hok ⟨⟨6, n⟩, b, c, d, e, f, a, k, l, m, q⟩ n h
end
end Go.Proofs.Ytfjnkhanndkpfaa
