/- A part of a proof. -/
import Derived.Test.YtlapcfnmmpbeeaaGreatProg
import Derived.Test.YtlapcfnmmpbeeaaGreatPO02
import Derived.Test.YtlapcfnmmpbeeaaGreatPO05
set_option linter.unusedSimpArgs false
set_option linter.unusedVariables false
namespace Go.Proofs.YtlapcfnmmpbeeaaGreat
open Go.RowKit
theorem jIZ (S : Nat) (h : S < 18446744073709551616) : 18446744073709551615 ^^^ S = 18446744073709551615 - S := by
  apply Nat.eq_of_testBit_eq; intro i
  rw [show 18446744073709551615 - S = 2 ^ 64 - (S + 1) by omega, Nat.testBit_two_pow_sub_succ (by omega), Nat.testBit_xor, show 18446744073709551615 = 2 ^ 64 - 1 by omega, Nat.testBit_two_pow_sub_one]
  by_cases hi : i < 64
  · simp [hi]
  simp [hi, Nat.testBit_lt_two_pow (Nat.lt_of_lt_of_le (show S < 2 ^ 64 by omega) (Nat.pow_le_pow_right (by omega) (Nat.le_of_not_lt hi)))]
theorem not64 (S : Nat) (h : S < 18446744073709551616) : bits .xor .u64 IntKind.u64.max (S : Int) = ((18446744073709551615 - S : Nat) : Int) := by
  have e : IntKind.u64.max = ((18446744073709551615 : Nat) : Int) := by decide
  rw [e, u64_xor_nat _ _ (by omega) h, jIZ S h]
theorem noti64 (x : Int) (h1 : 0 ≤ x) (h2 : x ≤ 9223372036854775807) : bits .xor .i64 (-1) x = -x - 1 := by
  obtain ⟨n, rfl⟩ : ∃ n : Nat, x = n := ⟨x.toNat, by omega⟩
  show IntKind.i64.wrap ((BitVec.ofInt 64 (-1) ^^^ BitVec.ofInt 64 (n : Int)).toNat : Int) = _
  rw [BitVec.toNat_xor, show (BitVec.ofInt 64 (-1)).toNat = 18446744073709551615 from by decide, ofInt_u64 n (by omega), jIZ n (by omega), IntKind.wrap_i64]
  omega
set_option maxHeartbeats 400000 in
theorem jJ9 (n : Int) (w : World) (h1 : -9223372036854775808 ≤ n) (h2 : n ≤ 9223372036854775807) :
    Calls Tryz.prog 136 #[.int .i64 n] w fun e w' => e = .returned (.int .u64 (jDt n)) ∧ w = w' := by
  by_cases h : n < 0
  · obtain ⟨X, hX⟩ : ∃ X : Nat, (X : Int) = 2 * n + 18446744073709551616 := ⟨(2 * n + 18446744073709551616).toNat, by omega⟩
    have hx := not64 X (by omega)
    have hw : IntKind.u64.wrap (IntKind.u64.wrap n * 2) = (X : Nat) := by rw [IntKind.wrap_u64, IntKind.wrap_u64]; omega
    have HT := Lib.hid (show (jDt n : Int) = ((18446744073709551615 - X : Nat) : Int) by unfold jDt; rw [if_pos h]; omega)
    clear hX
    go_enter Tryz.func136, Tryz.ntmps136
    go_wp2
    go_ret
    exact ⟨jDP (by rw [HT.out]), rfl⟩
  have HT := Lib.hid (show (jDt n : Int) = 2 * n by unfold jDt; rw [if_neg h]; omega)
  go_enter Tryz.func136, Tryz.ntmps136
  go_wp2
  go_ret
  exact ⟨jDP (by rw [HT.out]; omega), rfl⟩
set_option maxHeartbeats 400000 in
theorem jL3 (n : Int) (w : World) (h1 : -9223372036854775808 ≤ n) (h2 : n ≤ 9223372036854775807) :
    Calls Tryz.prog 141 #[.int .i64 n] w fun e w' => e = .returned (.int .u64 (jDt n)) ∧ w = w' := by
  by_cases h : n < 0
  · have HT := Lib.hid (show (jDt n : Int) = 2 * (-(n + 1)) + 1 by unfold jDt; rw [if_pos h]; omega)
    go_enter Tryz.func141, Tryz.ntmps141
    go_wp2
    go_ret
    exact ⟨jDP (by rw [HT.out]), rfl⟩
  have HT := Lib.hid (show (jDt n : Int) = 2 * n by unfold jDt; rw [if_neg h]; omega)
  go_enter Tryz.func141, Tryz.ntmps141
  go_wp2
  go_ret
  exact ⟨jDP (by rw [HT.out]), rfl⟩
set_option maxHeartbeats 400000 in
theorem back_any (u : Nat) (ui : Int) (hu : ui = (u : Nat)) (w : World) (h : u < 18446744073709551616) :
    Calls Tryz.prog 171 #[.int .u64 ui] w fun e w' => e = .returned (.int .i64 (jEg u)) ∧ w = w' := by
  subst hu
  have ha : bits .and .u64 (u : Int) 1 = ((u % 2 : Nat) : Int) := by rw [← nat_mask1]; exact u64_and_nat u 1 h (by omega)
  have hx := noti64 ((u : Int) / 2) (by omega) (by omega)
  by_cases ho : u % 2 = 1
  · have he : ((u : Int) % 2 == 1) = true := by simp; omega
    have HT := Lib.hid (show jEg u = -((u : Int) / 2) - 1 by unfold jEg; rw [if_pos ho]; omega)
    clear ho
    go_enter Tryz.func171, Tryz.ntmps171
    go_wp2
    go_ret
    exact ⟨jDP (by rw [HT.out]), rfl⟩
  have he : ((u : Int) % 2 == 1) = false := by simp; omega
  have HT := Lib.hid (show jEg u = (u : Int) / 2 by unfold jEg; rw [if_neg ho]; omega)
  clear ho
  go_enter Tryz.func171, Tryz.ntmps171
  go_wp2
  go_ret
  exact ⟨jDP (by rw [HT.out]), rfl⟩
set_option maxHeartbeats 400000 in
theorem jMf (u : Nat) (ui : Int) (hu : ui = (u : Nat)) (w : World) (h : u < 18446744073709551616) :
    Calls Tryz.prog 165 #[.int .u64 ui] w fun e w' => e = .returned (.int .i64 (jEg u)) ∧ w = w' := by
  subst hu
  by_cases ho : u % 2 = 1
  · have he : ((u : Int) % 2 == 0) = false := by simp; omega
    have HT := Lib.hid (show jEg u = -((u : Int) / 2) - 1 by unfold jEg; rw [if_pos ho]; omega)
    clear ho
    go_enter Tryz.func165, Tryz.ntmps165
    go_wp2
    go_ret
    exact ⟨jDP (by rw [HT.out]), rfl⟩
  have he : ((u : Int) % 2 == 0) = true := by simp; omega
  have HT := Lib.hid (show jEg u = (u : Int) / 2 by unfold jEg; rw [if_neg ho]; omega)
  clear ho
  go_enter Tryz.func165, Tryz.ntmps165
  go_wp2
  go_ret
  exact ⟨jDP (by rw [HT.out]), rfl⟩
set_option maxHeartbeats 400000 in
theorem jEl (f : Int) (w : World) : Calls Tryz.prog 20 #[.int .i64 f] w fun e w' => e = .returned (.bool (f == 1 || f == 2)) ∧ w = w' := by
  by_cases h1 : f = 1
  · subst h1
    go_enter Tryz.func20, Tryz.ntmps20
    go_wp2
    go_ret
    exact ⟨rfl, rfl⟩
  have e1 : (f == 1) = false := by simp [h1]
  go_enter Tryz.func20, Tryz.ntmps20
  go_wp2
  go_ret
  exact ⟨by simp [e1], rfl⟩
theorem jK6 (f u : Nat) : (vary f u).length = if u < 128 then 1 else (match f with | 0 => 1 | f + 1 => 1 + (vary f (u / 128)).length) := by
  cases f with
  | zero => simp [vary]
  | succ f => rw [vary]; split <;> simp [Nat.add_comm]
set_option maxHeartbeats 400000 in
theorem size_any (f n : Int) (w : World) (h1 : -9223372036854775808 ≤ n) (h2 : n ≤ 9223372036854775807) :
    Calls Tryz.prog 135 #[.int .i64 f, .int .i64 n] w fun e w' => e = .returned (.int .i64 ((putN f n).length : Nat)) ∧ w = w' := by
  by_cases g1 : f = 1
  · subst g1
    have HT := Lib.hid (show (putN 1 n).length = 8 by unfold putN; rw [if_pos rfl, jBc])
    go_enter Tryz.func135, Tryz.ntmps135
    go_wp2
    go_ret
    exact ⟨jDP (by rw [HT.out]; rfl), rfl⟩
  have e1 : (f == 1) = false := by simp [g1]
  by_cases g2 : f = 2
  · subst g2
    have HT := Lib.hid (show (putN 2 n).length = (vary 9 (jDt n)).length by unfold putN; rw [if_neg (by decide), if_pos rfl])
    have hT := jH5 h1 h2
    clear e1 g1
    go_enter Tryz.func135, Tryz.ntmps135
    go_wp2_with fail
    (with_reducible refine (jJ9 n _ h1 h2).mono ?_)
    rintro e w' ⟨rfl, rfl⟩
    generalize jDt n = T at *
    go_wp2_with fail
    go_loop [5, 6] (fun s5 s6 => ∃ k u j : Nat, k + j = 9 ∧ u < 2 * 128 ^ j ∧ s5 = .int .i64 ((k + 1 : Nat) : Int) ∧ s6 = .int .u64 ((u / 128 : Nat) : Int) ∧ (vary 9 T).length = k + (vary j u).length) (fun _ s6 => (intOf s6).toNat)
    case atStart => exact ⟨0, T, 9, rfl, by show T < 2 * 128 ^ 9; omega, rfl, jFW (by omega), by omega⟩
    case round =>
      obtain ⟨k, u, j, hk, hu, rfl, rfl, hv⟩ := hrel
      have HV := Lib.hid hv
      have HU := Lib.hid hu
      clear hv hu
      by_cases hz : u < 128
      · have HZ := Lib.hid (show (vary j u).length = 1 by rw [jK6, if_pos hz])
        have hd := decF (show ¬ (0 : Int) < ((u / 128 : Nat) : Int) by omega)
        go_wp2
        go_ret
        exact ⟨jDP (by rw [HT.out, HV.out, HZ.out]; omega), rfl⟩
      have hd := decT (show (0 : Int) < ((u / 128 : Nat) : Int) by omega)
      obtain ⟨i, rfl⟩ : ∃ i, j = i + 1 := by
        cases j with
        | zero => have := HU.out; simp at this; omega
        | succ i => exact ⟨i, rfl⟩
      have HZ := Lib.hid (show (vary (i + 1) u).length = 1 + (vary i (u / 128)).length by rw [jK6, if_neg hz])
      have HU2 := Lib.hid (show u / 128 < 2 * 128 ^ i by have := HU.out; rw [Nat.pow_succ] at this; omega)
      go_wp2
      go_round
      case rel => exact ⟨k + 1, u / 128, i, by omega, HU2.out, by go_num, jFW (by omega), by rw [HV.out, HZ.out]; omega⟩
      case measure => simp [intOf]; omega
  have e2 : (f == 2) = false := by simp [g2]
  have HT := Lib.hid (show (putN f n).length = 0 by unfold putN; rw [if_neg g1, if_neg g2]; rfl)
  clear g1 g2
  go_enter Tryz.func135, Tryz.ntmps135
  go_wp2
  go_ret
  exact ⟨jDP (by rw [HT.out]; rfl), rfl⟩
set_option maxRecDepth 100000
theorem Tryz.infoU8 : (Tryz.prog.info? 5).map (fun i => (i.zero, i.size, i.bytes)) = some (some (.int .u8 0), 1, 1) := by kernel_rfl
def OwnB (w : World) (base : Nat) (A : Option Addr) (n c : Nat) (l : List UInt8) : Prop := l.length = n ∧ w.ownsRow base 5 1 (.slice A n c) n (bvs l)
section
variable {w w' : World} {base n c : Nat} {A : Option Addr} {l : List UInt8}
theorem OwnB.rd (h : OwnB w base A n c l) : Rd w w.heap.size 1 A n (bvs l) := Rd.of_own h.2
theorem OwnB.len (h : OwnB w base A n c l) : l.length = n := h.1
theorem OwnB.nc (h : OwnB w base A n c l) : n ≤ c := by
  rcases h.2.2 with ⟨h1, _⟩ | ⟨g, cap, cur, h1, _, _, h2, _⟩
  · injection h1 with _ h1 h2; omega
  injection h1 with _ _ h1; omega
theorem OwnB.drew (h : OwnB w base A n c l) : OwnB w.drew base A n c l := h
theorem OwnB.alloc (h : OwnB w base A n c l) (o : Obj) : OwnB (w.alloc o) base A n c l := ⟨h.1, h.2.alloc o⟩
theorem OwnB.lt (h : OwnB w base A n c l) : ∀ k, (Value.slice A n c).ownBlock = some k → base ≤ k ∧ k < w.heap.size := h.2.lt
theorem OwnB.empty (w : World) (hb : base ≤ w.heap.size) : OwnB (w.alloc (.cells #[] 5)) base (some ⟨w.heap.size, 0, none⟩) 0 0 [] :=
  ⟨rfl, World.ownsRow_lit (size := 1) w #[] 0 hb (by unfold maxLen; omega) rfl⟩
theorem OwnB.byte (h : OwnB w base A n c l) {k : Nat} (hk : k < n) :
    ∃ (g : Nat) (hl : k < l.length), A = some ⟨g, 0, none⟩ ∧ base ≤ g ∧ g < w.heap.size ∧ w.cell? ⟨g, k, none⟩ = some (Value.int .u8 (l[k].toNat : Nat)) ∧ w.frozen? ⟨g, k, none⟩ = false ∧ l[k].toNat < 256 := by
  have hl : k < l.length := by have := h.len; omega
  obtain ⟨g, cap, hv, hgb, hgs⟩ := h.2.form (by omega)
  injection hv with hv _ hv2
  subst hv hv2
  refine ⟨g, hl, rfl, hgb, hgs, ?_, h.2.frozenAt k, UInt8.toNat_lt _⟩; rw [h.2.cellAt k (by omega), bvs, List.getElem?_map, List.getElem?_eq_getElem hl]; rfl
end
theorem wp_app {o : Oper} {a : Act} {K : Act → World → Prop} {Q : Exit → Act → World → Prop} (w : World) (s x : Operand)
    (ho : o.op = .call { callee := .builtin .append, args := #[s, x], argTypes := #[52, 52] })
    (base : Nat) (A : Option Addr) (n c : Nat) (l : List UInt8) (hs : a.eval s = .slice A n c) (hown : OwnB w base A n c l)
    (A2 : Option Addr) (m c2 : Nat) (l2 : List UInt8) (hx : a.eval x = .slice A2 m c2) (hr : Rd w w.heap.size 1 A2 m (bvs l2))
    (hsz : n + m ≤ 140737488355328) (hbase : base ≤ w.heap.size)
    (h : ∀ A' c' w', OwnB w' base A' (n + m) c' (l ++ l2) → w.grownBy w' (Value.slice A n c).ownBlock → ((Value.slice A' (n + m) c').ownBlock = (Value.slice A n c).ownBlock ∨ (Value.slice A' (n + m) c').ownBlock = some w.heap.size) → K (a.put o.dst (.slice A' (n + m) c')) w') : o.wp Tryz.prog a w K Q := by
  obtain ⟨i, hi, hz0, hz1, hz2⟩ := info_parts Tryz.infoU8
  have key : ∃ v' w', (Builtin.append_ #[52, 52] o.type #[.slice A n c, .slice A2 m c2]).run Tryz.prog w = .ok v' w' ∧ w'.ownsRow base 5 1 v' (n + m) (bvs (l ++ l2)) ∧ w.grownBy w' (Value.slice A n c).ownBlock ∧
      (v'.ownBlock = (Value.slice A n c).ownBlock ∨ v'.ownBlock = some w.heap.size) := by
    rcases A2 with _ | ad
    · have hm : m = 0 := by
        rcases Nat.eq_zero_or_pos m with h0 | h0
        · exact h0
        obtain ⟨b, off, h', _⟩ := hr.2 h0
        cases h'
      subst hm
      have hl2 : l2 = [] := List.eq_nil_of_length_eq_zero hr.blen
      subst hl2
      refine ⟨.slice A n c, w, ?_, by simpa using hown.2, World.grownBy.refl w _, .inl rfl⟩
      have hnc := hown.nc
      rcases hown.2.2 with ⟨h1, h2⟩ | ⟨g, cap, cur, h1, _⟩
      · injection h1 with h1 h3 h4
        subst h1 h3 h4
        simp [Builtin.append_, run_underlying Tryz.underlying52, sizeOf, typeInfo, hi, Builtin.lenOf, Builtin.firstCells]
      injection h1 with h1 h3 h4
      subst h1 h4
      simp [Builtin.append_, run_underlying Tryz.underlying52, sizeOf, typeInfo, hi, Builtin.lenOf, Builtin.firstCells, hnc, storeCells]
    have hcells : ∀ j u, (bvs l2)[j]? = some u → w.cell? (ad.add j) = some u := by
      intro j u hu
      have hj := (List.getElem?_eq_some_iff.1 hu).1
      rw [jDh, hr.blen] at hj
      obtain ⟨b, off, h', _, hc⟩ := hr.2 (by omega)
      injection h' with h'
      subst h'
      have ha : (⟨b, off, none⟩ : Addr).add j = ⟨b, off + j, none⟩ := by unfold Addr.add; split <;> simp_all
      rw [ha, hc j (by rw [jDh, hr.blen]; omega), hu]
    obtain ⟨v', w', hrun, h2, h3, _, h5⟩ := run_append_own_at (P := Tryz.prog) w base 52 o.type 5 i (.int .u8 0) 1 1 Tryz.underlying52 hi hz0 hz1 hz2 rfl (by decide) _ n _ hown.2 ad m c2 (bvs l2) (by rw [jDh, hr.blen, Nat.mul_one]) hcells (bvs_one l2) (by unfold maxLen; omega) (by omega) hbase
    exact ⟨v', w', hrun, by rw [jLD]; exact h2, h3, h5⟩
  obtain ⟨v', w', hrun, h2, h3, h4⟩ := key
  have hex : ∃ A' c', v' = .slice A' (n + m) c' := by
    rcases h2.2 with ⟨h', h0⟩ | ⟨g, cap, cur, h', _⟩
    · exact ⟨none, 0, by rw [h', h0]⟩
    exact ⟨_, cap, h'⟩
  obtain ⟨A', c', rfl⟩ := hex
  unfold Oper.wp execOp
  simp only [ho, resolve, invoke, builtin, Sem.run_bind, Sem.run_pure, Result.andThen_ok, List.map_toArray, List.map_cons, List.map_nil, hs, hx, hrun]
  exact h A' c' w' ⟨by rw [List.length_append, hown.1, hr.blen], h2⟩ h3 h4
theorem jDd {ops : Array Oper} {rest : List Oper} {o : Oper} {a : Act} {Q : Exit → Act → World → Prop} (w : World) (hgd : o.guard = none) (s x : Operand)
    (ho : o.op = .call { callee := .builtin .append, args := #[s, x], argTypes := #[52, 52] })
    (base : Nat) (A : Option Addr) (n c : Nat) (l : List UInt8) (hs : a.eval s = .slice A n c) (hown : OwnB w base A n c l)
    (A2 : Option Addr) (m c2 : Nat) (l2 : List UInt8) (hx : a.eval x = .slice A2 m c2) (hr : Rd w w.heap.size 1 A2 m (bvs l2))
    (hsz : n + m ≤ 140737488355328) (hbase : base ≤ w.heap.size)
    (h : ∀ A' c' w', OwnB w' base A' (n + m) c' (l ++ l2) → w.grownBy w' (Value.slice A n c).ownBlock → ((Value.slice A' (n + m) c').ownBlock = (Value.slice A n c).ownBlock ∨ (Value.slice A' (n + m) c').ownBlock = some w.heap.size) → wpList Tryz.prog ops Q rest (a.put o.dst (.slice A' (n + m) c')) w') : wpList Tryz.prog ops Q (o :: rest) a w :=
  wpList_plain hgd fun _ hK => wp_app w s x ho base A n c l hs hown A2 m c2 l2 hx hr hsz hbase fun A' c' w' h1 h2 h3 => hK _ _ (h A' c' w' h1 h2 h3)
theorem Rd.one (w : World) (x : Int) (b : UInt8) (hx : x = (b.toNat : Nat)) : Rd (w.alloc (.cells #[.int .u8 x] 5)) (w.heap.size + 1) 1 (some ⟨w.heap.size, 0, none⟩) 1 (bvs [b]) := by
  subst hx
  have := Rd.laid w #[.int .u8 (b.toNat : Nat)] 5 (0, 0) 1 (bvs [b]) rfl rfl
  rwa [World.size_alloc] at this
theorem Rd.one' (w : World) (x : Int) (b : UInt8) (hx : x = (b.toNat : Nat)) : Rd (w.alloc (.cells #[.int .u8 x] 5)) (w.alloc (.cells #[.int .u8 x] 5)).heap.size 1 (some ⟨w.heap.size, 0, none⟩) 1 (bvs [b]) := by
  subst hx
  exact Rd.laid w #[.int .u8 (b.toNat : Nat)] 5 (0, 0) 1 (bvs [b]) rfl rfl
theorem low7 (u : Nat) (h : u < 18446744073709551616) : bits .or .u8 (bits .and .u64 (u : Int) 127 % 256) 128 = ((128 + u % 128 : Nat) : Int) := by
  have e1 : bits .and .u64 (u : Int) 127 = ((u % 128 : Nat) : Int) := by rw [← nat_mask7]; exact u64_and_nat u 127 h (by omega)
  rw [e1, show ((u % 128 : Nat) : Int) % 256 = ((u % 128 : Nat) : Int) by omega, show (128 : Int) = ((128 : Nat) : Int) from rfl, u8_or_nat _ _ (by omega) (by omega), Nat.or_comm, nat_join 7 128 (u % 128) (by decide) (by omega)]
theorem jMJ {ops : Array Oper} {rest : List Oper} {o : Oper} {a : Act} {Q : Exit → Act → World → Prop} (w : World) (hg : o.guard = none) (lo co : Operand) (hop : o.op = Op.makeSlice 52 lo co)
    (base : Nat) (kl kc : IntKind) (C : Int) (n : Nat) (hl : a.eval lo = .int kl 0) (hc : a.eval co = .int kc C) (hC : C = (n : Int)) (hn : n ≤ 140737488355328) (hbase : base ≤ w.heap.size)
    (hK : ∀ w', OwnB w' base (some ⟨w.heap.size, 0, none⟩) 0 n [] → w.grownBy w' none → wpList Tryz.prog ops Q rest (a.put o.dst (.slice (some ⟨w.heap.size, 0, none⟩) 0 n)) w') :
    wpList Tryz.prog ops Q (o :: rest) a w := by
  obtain ⟨i, hi, hz0, hz1, hz2⟩ := info_parts Tryz.infoU8
  exact wpList_make_own w hg lo co 52 hop base 5 i (.int .u8 0) 1 Tryz.underlying52 hi hz0 hz1 kl kc C n hl hc hC (by rw [hz2]; omega) (by unfold maxLen; omega) hbase
    fun w' h1 h2 => hK w' ⟨rfl, h1⟩ h2
def RetB (w : World) (l : List UInt8) (e : Ending) (w' : World) : Prop := ∃ A n c, e = .returned (.slice A n c) ∧ OwnB w' w.heap.size A n c l ∧ Below w.heap.size w w'
set_option maxRecDepth 100000
set_option maxHeartbeats 1000000 in
theorem jMq (A : Option Addr) (n c : Nat) (l : List UInt8) (f z : Int) (w : World) (h : Rd w w.heap.size 1 A n (bvs l)) (hn : n ≤ 70368744177664) (hf1 : -9223372036854775808 ≤ f) (hf2 : f ≤ 9223372036854775807) (h1 : -9223372036854775808 ≤ z) (h2 : z ≤ 9223372036854775807) :
    Calls Tryz.prog 93 #[.slice A n c, .int .i64 f, .int .i64 z] w (RetB w (l ++ putN f z)) := by
  have hs : (putN f z).length ≤ 10 := by
    unfold putN; split
    · rw [jBc]; omega
    split
    · exact jHD 9 _
    simp
  have hl := h.blen
  have R := Lib.hid h
  clear h
  go_enter Tryz.func93, Tryz.ntmps93
  go_wp2_with fail
  (with_reducible refine (size_any f z _ h1 h2).mono ?_)
  rintro e w' ⟨rfl, rfl⟩
  go_wp2_with (first | (at_make; (with_reducible refine jMJ _ rfl _ _ rfl w.heap.size _ _ _ (n + (putN f z).length) rfl rfl ?_ ?_ ?_ ?_)))
  · omega
  · omega
  · exact Nat.le_refl _
  intro w1 ho1 hg1
  have B1 := Lib.hid (jDj hg1)
  have O1 := Lib.hid ho1
  clear ho1 hg1
  go_wp2_with (first | (at_builtin; (with_reducible refine jDd _ rfl _ _ rfl w.heap.size _ _ _ [] rfl O1.out _ _ _ l rfl ?_ ?_ ?_ ?_)))
  · exact R.out.below' B1.out
  · omega
  · exact B1.out.size
  intro A2 c2 w2 ho2 hg2 _
  have B2 := Lib.hid (B1.out.grown hg2 B1.out.size fun k hk => (O1.out.lt k hk).1)
  have O2 := Lib.hid ho2
  clear ho2 hg2
  by_cases g1 : f = 1
  · have e1 : (f == 1) = true := by simp [g1]
    have HP := Lib.hid (show putN f z = leB 8 (u64N z) by unfold putN; rw [if_pos g1])
    have hwz : IntKind.u64.wrap z = (u64N z : Nat) := by rw [IntKind.wrap_u64]; unfold u64N; omega
    generalize putN f z = p at *
    generalize u64N z = U at *
    clear g1
    go_wp2_with fail
    go_loopw [8, 9, 27] (fun s8 s9 s27 wr => ∃ (k u n' c' : Nat) (A' : Option Addr), k ≤ 8 ∧ s27 = .int .i64 k ∧ s9 = .int .u64 u ∧ u = U / 256 ^ k ∧ s8 = .slice A' n' c' ∧ OwnB wr w.heap.size A' n' c' (l ++ (leB 8 U).take k) ∧ Below w.heap.size w wr) (fun _ _ s27 _ => 8 - (intOf s27).toNat)
    case atStart => exact ⟨0, U, _, c2, A2, by omega, rfl, rfl, by simp, rfl, by simpa using O2.out, B2.out⟩
    case round =>
      obtain ⟨k, u, n', c', A', hk, rfl, rfl, hu, rfl, hO, hB⟩ := hrel
      have HU := Lib.hid hu
      have O3 := Lib.hid hO
      have B3 := Lib.hid hB
      have hn' := hO.len
      rw [List.length_append, List.length_take, jBc] at hn'
      have hn2 : n' ≤ n + 8 := by omega
      clear hu hO hB hn'
      by_cases hk2 : k < 8
      · have hd := decT (show (k : Int) < 8 by omega)
        go_wp2_with (first | (at_builtin; (with_reducible refine jDd _ rfl _ _ rfl w.heap.size _ _ _ _ rfl (O3.out.alloc _) _ _ _ [jCn (u % 256)] rfl ?_ ?_ ?_ ?_)))
        · exact Rd.laid wr _ _ _ 1 _ rfl (by simp [bvs, bv, jAF (show u % 256 < 256 by omega)])
        · omega
        · simp; exact Nat.le_succ_of_le B3.out.size
        intro A4 c4 w4 ho4 hg4 _
        have B4 := Lib.hid ((B3.out.alloc B3.out.size _).grown hg4 (by simp; exact Nat.le_succ_of_le B3.out.size) fun k hk => (O3.out.lt k hk).1)
        have O4 := Lib.hid ho4
        clear ho4 hg4
        go_wp2_with fail
        go_roundw
        case rel => exact ⟨k + 1, u / 256, _, _, _, by omega, by go_num, jFW (by omega), by rw [HU.out, Nat.div_div_eq_div_mul, Nat.pow_succ], rfl, by rw [jKu U k hk2, ← HU.out]; exact O4.out, B4.out⟩
        case measure => simp [intOf]; omega
      have hd := decF (show ¬ (k : Int) < 8 by omega)
      go_wp2_with fail
      go_ret
      exact ⟨_, _, _, rfl, by rw [HP.out, show leB 8 U = (leB 8 U).take k from (List.take_of_length_le (by rw [jBc]; omega)).symm]; exact O3.out, B3.out⟩
  have e1 : (f == 1) = false := by simp [g1]
  by_cases g2 : f = 2
  · have e2 : (f == 2) = true := by simp [g2]
    have HP := Lib.hid (show putN f z = vary 9 (jDt z) by unfold putN; rw [if_neg g1, if_pos g2])
    have hT := jH5 h1 h2
    generalize putN f z = p at *
    clear g1 g2
    go_wp2_with fail
    refine jFR 0 (fun a' w' => ∃ u : Nat → Value, a' = { tmps := #[u 0, u 1, u 2, u 3, u 4, u 5, u 6, u 7, u 8, u 9, u 10, u 11, u 12, u 13, u 14, u 15, u 16, u 17, u 18, u 19, u 20, u 21, u 22, u 23, u 24, u 25, u 26, u 27, u 28, u 29, u 30, u 31, u 32, u 33, u 34, u 35, u 36, u 37, u 38, u 39, u 40, u 41, u 42, u 43, u 44, u 45, u 46, u 47, u 48, u 49, u 50, u 51, u 52, u 53, u 54, u 55, u 56, u 57], defers := [] } ∧ (∃ (x j n' c' : Nat) (A' : Option Addr) (d : List UInt8), u 10 = .int .u64 x ∧ u 8 = .slice A' n' c' ∧ x < 2 * 128 ^ j ∧ d.length + j = 9 ∧ vary 9 (jDt z) = d ++ vary j x ∧ OwnB w' w.heap.size A' n' c' (l ++ d) ∧ Below w.heap.size w w')) (fun a' w' => (intOf (a'.tmps.getD 10 undef)).toNat) rfl ?_ ?_
    · intro Qv HG HJ0 HQ
      go_wp2_with fail
      (with_reducible refine (jJ9 z _ h1 h2).mono ?_)
      rintro e w' ⟨rfl, rfl⟩
      go_wp2_with fail
      go_step3
      apply_assumption
      refine HG.out _ _ ?_; refine jgive rfl ?_; exact ⟨jDt z, 9, _, _, _, [], rfl, rfl, by show jDt z < 2 * 128 ^ 9; omega, rfl, rfl, by simpa using O2.out, B2.out⟩
    rintro a' w' ⟨u, rfl, x, j, n', c', A', d, hs1, hs2, hu, hd, hv, hO, hB⟩; rw [hs1, hs2]
    clear hs1 hs2
    intro Qv HJ HQ
    have HU := Lib.hid hu
    have HV := Lib.hid hv
    have O3 := Lib.hid hO
    have B3 := Lib.hid hB
    have hn' := hO.len
    rw [List.length_append] at hn'
    have hn2 : n' ≤ n + 10 := by omega
    have hu64 : x < 18446744073709551616 := by
      have h9 : 128 ^ j ≤ 128 ^ 9 := Nat.pow_le_pow_right (by omega) (by omega)
      have : (128 : Nat) ^ 9 = 9223372036854775808 := by decide
      omega
    clear hu hv hO hB hn'
    by_cases hz : x < 128
    · have hd2 := decF (show ¬ (128 : Int) ≤ x by omega)
      have HZ := Lib.hid (show vary j x = [jCn x] by cases j with | zero => rfl | succ j => rw [vary, if_pos hz])
      go_wp2_with (first | (at_builtin; (with_reducible refine jDd _ rfl _ _ rfl w.heap.size _ _ _ _ rfl (O3.out.alloc _) _ _ _ [jCn x] rfl ?_ ?_ ?_ ?_)))
      · have hb8 := jAF (show x < 256 by omega)
        first | exact Rd.one _ _ _ (by rw [hb8]; try omega) | exact Rd.one' _ _ _ (by rw [hb8]; try omega)
      · omega
      · first | exact Nat.le_succ_of_le B3.out.size | (simp; exact Nat.le_succ_of_le B3.out.size)
      intro A4 c4 w4 ho4 hg4 _
      have B4 := Lib.hid ((B3.out.alloc B3.out.size _).grown hg4 (by simp; exact Nat.le_succ_of_le B3.out.size) fun k hk => (O3.out.lt k hk).1)
      have O4 := Lib.hid ho4
      clear ho4 hg4
      go_wp2_with fail
      refine HQ.out _ _ _ ?_ (by simp)
      go_wp2_with fail
      go_ret
      exact ⟨_, _, _, rfl, by rw [HP.out, HV.out, HZ.out]; exact O4.out, B4.out⟩
    have hd2 := decT (show (128 : Int) ≤ x by omega)
    obtain ⟨i, rfl⟩ : ∃ i, j = i + 1 := by
      cases j with
      | zero => have := HU.out; simp at this; omega
      | succ i => exact ⟨i, rfl⟩
    have HZ := Lib.hid (show vary (i + 1) x = jCn (128 + x % 128) :: vary i (x / 128) by rw [vary, if_neg hz])
    have HU2 := Lib.hid (show x / 128 < 2 * 128 ^ i by have := HU.out; rw [Nat.pow_succ] at this; omega)
    go_wp2_with (first | (at_builtin; (with_reducible refine jDd _ rfl _ _ rfl w.heap.size _ _ _ _ rfl (O3.out.alloc _) _ _ _ [jCn (128 + x % 128)] rfl ?_ ?_ ?_ ?_)))
    · first | exact Rd.one _ _ _ (by rw [jAF (by omega), low7 x (by omega)]) | exact Rd.one' _ _ _ (by rw [jAF (by omega), low7 x (by omega)])
    · omega
    · first | exact Nat.le_succ_of_le B3.out.size | (simp; exact Nat.le_succ_of_le B3.out.size)
    intro A4 c4 w4 ho4 hg4 _
    have B4 := Lib.hid ((B3.out.alloc B3.out.size _).grown hg4 (by simp; exact Nat.le_succ_of_le B3.out.size) fun k hk => (O3.out.lt k hk).1)
    have O4 := Lib.hid ho4
    clear ho4 hg4
    go_wp2_with fail
    go_step3
    refine HJ.out _ _ ?_ ?_
    · refine jgive rfl ?_; exact ⟨x / 128, i, _, _, _, d ++ [jCn (128 + x % 128)], jFW (by omega), rfl, HU2.out, by rw [List.length_append]; simp; omega, by rw [HV.out, HZ.out, List.append_assoc]; rfl, by simpa using O4.out, B4.out⟩
    simp [intOf]; omega
  have e2 : (f == 2) = false := by simp [g2]
  have HP := Lib.hid (show putN f z = [] by unfold putN; rw [if_neg g1, if_neg g2])
  generalize putN f z = p at *
  clear g1 g2
  go_wp2_with fail
  go_ret
  exact ⟨_, _, _, rfl, by rw [HP.out, List.append_nil]; simpa using O2.out, B2.out⟩
end Go.Proofs.YtlapcfnmmpbeeaaGreat
