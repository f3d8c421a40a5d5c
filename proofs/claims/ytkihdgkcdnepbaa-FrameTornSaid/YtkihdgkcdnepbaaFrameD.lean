/- The law FrameTorn, walked. No conditions. -/
import Derived.Test.YtkihdgkcdnepbaaFrameR
import Derived.Test.YtkihdgkcdnepbaaFrameE
namespace Go.Proofs.Ytkihdgkcdnepbaa
set_option linter.unusedSimpArgs false
set_option linter.unusedVariables false
open Go.RowKit

theorem Try.infoInt : (Try.prog.info? 3).map (fun i => (i.zero, i.size, i.bytes)) = some (some (.int .i64 0), 1, 8) := by kernel_rfl
/-- The ends of the first frames, as cells. -/
def endsV (t : Nat → Nat) (rs : List (List UInt8)) (k : Nat) : List Value := (List.range (k + 1)).map fun j => .int .i64 (endF t rs j : Nat)
theorem endsV_succ (t : Nat → Nat) (rs : List (List UInt8)) (k : Nat) : endsV t rs (k + 1) = endsV t rs k ++ [.int .i64 (endF t rs (k + 1) : Nat)] := by
  unfold endsV
  rw [List.range_succ, List.map_append]
  rfl
theorem endsV_get (t : Nat → Nat) (rs : List (List UInt8)) (k j : Nat) (h : j ≤ k) : (endsV t rs k)[j]? = some (.int .i64 (endF t rs j : Nat)) := by
  unfold endsV
  rw [List.getElem?_map, List.getElem?_range (by omega)]
  rfl

theorem wpList_appI {ops : Array Oper} {rest : List Oper} {o : Oper} {a : Act} {Q : Exit → Act → World → Prop} (w : World) (hgd : o.guard = none) (s x : Operand)
    (ho : o.op = .call { callee := .builtin .append, args := #[s, x], argTypes := #[54, 54] })
    (base : Nat) (A : Option Addr) (n c : Nat) (xs : List Value) (hs : a.eval s = .slice A n c) (hown : OwnV 3 w base A n c xs)
    (z : Int) (hx : a.eval x = .slice (some ⟨w.heap.size, 0, none⟩) 1 1) (hsz : n ≤ 1000000000000) (hbase : base ≤ w.heap.size)
    (h : ∀ A' c' w', OwnV 3 w' base A' (n + 1) c' (xs ++ [.int .i64 z]) → (w.alloc (.cells #[.int .i64 z] 3)).grownBy w' (Value.slice A n c).ownBlock → ((Value.slice A' (n + 1) c').ownBlock = (Value.slice A n c).ownBlock ∨ (Value.slice A' (n + 1) c').ownBlock = some (w.alloc (.cells #[.int .i64 z] 3)).heap.size) → wpList Try.prog ops Q rest (a.put o.dst (.slice A' (n + 1) c')) w') : wpList Try.prog ops Q (o :: rest) a (w.alloc (.cells #[.int .i64 z] 3)) := by
  refine wpList_plain hgd fun _ hK => wp_appV 54 3 _ 8 Try.underlying54 Try.infoInt rfl _ s x ho base A n c xs hs (hown.alloc _) ⟨w.heap.size, 0, none⟩ 1 1 [.int .i64 z] hx (Rd.oneV w _ _) ?_ (by omega) (by unfold maxLen; omega) (by simp; omega) fun A' c' w' h3 h4 h5 => hK _ _ (h A' c' w' h3 h4 h5)
  intro u hu
  rw [List.mem_singleton] at hu
  subst hu
  rfl

theorem RdR.take {w : World} {n : Nat} {A : Option Addr} {rs : List (List UInt8)} (h : RdR w A n rs) {k : Nat} (hk : k ≤ n) : RdR w A k (rs.take k) := by
  have hl := h.len
  obtain ⟨vs, h1, h2⟩ := h
  have h3 := h1.take hk
  rw [Nat.mul_one] at h3
  refine ⟨vs.take k, h3, by rw [List.length_take, List.length_take, h2.1], fun i hi => ?_⟩
  rw [List.length_take] at hi
  obtain ⟨v, h4, h5⟩ := h2.2 i (by omega)
  refine ⟨v, ?_, ?_⟩
  · rw [List.getElem?_take, if_pos (by omega)]; exact h4
  · rw [List.getElem_take]; exact h5

set_option maxRecDepth 100000 in
set_option maxHeartbeats 4000000 in
theorem walk_FrameTorn (w : World) (t0 : Nat → Nat) (ht0 : ∀ i, i < 256 → t0 i < 4294967296) (A1 : Option Addr) (n1 c1 : Nat) (rs1 : List (List UInt8)) (rd1 : RdR w A1 n1 rs1) (nc1 : n1 ≤ c1) (cm1 : c1 ≤ maxLen) (a2 : Int) (w2 : (Lit.int .i64 a2).wf = true) :
    Calls Try.prog 10 #[.agg (tabCells t0), .slice A1 n1 c1, .int .i64 a2] w fun e w' => e = .returned (.bool true) ∧ Below w.heap.size w w' := by
  have cm2 := cm1
  unfold maxLen at cm2
  have b2 := bounds_i64 w2
  have hl1 := rd1.len
  have R1 := Lib.hid rd1
  have B0 := Lib.hid ((Below.refl w.heap.size w).alloc (Nat.le_refl _) (Obj.cells (tabCells t0) 26))
  have HG0 := Lib.hid (heap_alloc_new w (Obj.cells (tabCells t0) 26))
  clear rd1 w2
  go_enter Try.func10, Try.ntmps10
  go_wp2_with fail
  (with_reducible refine (awake07_any _).mono ?_)
  rintro e w1 ⟨rfl, hb1⟩
  have B1 := Lib.hid (B0.out.trans (hb1.mono B0.out.size))
  have HG1 := Lib.hid (blk_keep HG0.out hb1)
  have HS1 := Lib.hid (show w.heap.size + 1 ≤ w1.heap.size by have := hb1.size; simpa using this)
  clear hb1
  go_upto_region 3 with fail
  by_cases g1 : 40 < n1
  · have d1 := decT (show (40 : Int) < n1 by omega)
    go_wp2_with fail
    go_ret
    exact ⟨rfl, B1.out⟩
  · have d1 := decF (show ¬ (40 : Int) < n1 by omega)
    go_wp2_with fail
    have RK0 : RowOk ((w1.alloc (Obj.cells #[] 5)).alloc (Obj.cells #[Value.int .i64 0] 3)) (some (w1.heap.size + 1)) (.slice (some ⟨w1.heap.size, 0, none⟩) 0 0) [] := ⟨_, _, _, rfl, Nat.le_refl _, Nat.zero_le _, Rd.none_, fun h => absurd h (by omega)⟩
    have OE0 : OwnV 3 ((w1.alloc (Obj.cells #[] 5)).alloc (Obj.cells #[Value.int .i64 0] 3)) (w.heap.size + 1) (some ⟨w1.heap.size + 1, 0, none⟩) 1 1 (endsV t0 rs1 0) := by
      have := World.ownsRow_lit (base := w.heap.size + 1) (e := 3) (size := 1) (w1.alloc (Obj.cells #[] 5)) #[Value.int .i64 0] 1 (by have := HS1.out; simp; omega) (by unfold maxLen; omega) rfl
      rw [World.size_alloc] at this
      exact ⟨rfl, this⟩
    have BE0 : Below w.heap.size w ((w1.alloc (Obj.cells #[] 5)).alloc (Obj.cells #[Value.int .i64 0] 3)) := (B1.out.alloc B1.out.size _).alloc (by simp; exact Nat.le_succ_of_le B1.out.size) _
    have GE0 : ((w1.alloc (Obj.cells #[] 5)).alloc (Obj.cells #[Value.int .i64 0] 3)).heap[w.heap.size]? = some (Obj.cells (tabCells t0) 26) := by
      rw [Below.heap_alloc _ _ _ (by have := HS1.out; simp; omega), Below.heap_alloc _ _ _ (by have := HS1.out; omega)]
      exact HG1.out
    generalize hw2 : (w1.alloc (Obj.cells #[] 5)).alloc (Obj.cells #[Value.int .i64 0] 3) = w2 at *
    clear hw2
    go_loopw [7, 8, 9] (fun s7 s8 s9 wr => ∃ (k n7 c7 c8 : Nat) (A7 A8 : Option Addr), k ≤ n1 ∧ s9 = .int .i64 k ∧ s7 = .slice A7 n7 c7 ∧ s8 = .slice A8 (k + 1) c8 ∧ endF t0 rs1 k = n7 ∧ n7 ≤ 308 * k ∧ (∀ j (h : j < rs1.length), j < k → rs1[j].length ≤ 300) ∧ RowOk wr (Value.slice A8 (k + 1) c8).ownBlock (.slice A7 n7 c7) (catF t0 (rs1.take k)) ∧ OwnV 3 wr (w.heap.size + 1) A8 (k + 1) c8 (endsV t0 rs1 k) ∧ Below w.heap.size w wr ∧ wr.heap[w.heap.size]? = some (Obj.cells (tabCells t0) 26)) (fun _ _ s9 _ => n1 - (intOf s9).toNat)
    case atStart => exact ⟨0, 0, 0, 1, _, _, by omega, rfl, rfl, rfl, rfl, Nat.le_refl _, fun j _ h => by omega, RK0, OE0, BE0, GE0⟩
    case round =>
      obtain ⟨k, n7, c7, c8, A7, A8, hk, rfl, rfl, rfl, hn7, he7, hshort, hrk, hov, hbel, hg⟩ := hrel
      have HN7 := Lib.hid hn7
      have HSH := Lib.hid hshort
      have RK := Lib.hid hrk
      have OV := Lib.hid hov
      have BB := Lib.hid hbel
      have GG := Lib.hid hg
      clear hn7 hshort hrk hov hbel hg RK0 OE0 BE0 GE0
      by_cases hk2 : k < n1
      · have d2 := decT (show (k : Int) < n1 by omega)
        obtain ⟨b1, o1, k1, A', n', c', rfl, hb1, hc1, hn'c, hc'm, R'⟩ := (R1.out.below BB.out).row hk2
        have hrl := R'.out.blen
        have HSU := Lib.hid (endF_succ t0 rs1 k k1)
        have HCS := Lib.hid (show catF t0 (rs1.take (k + 1)) = catF t0 (rs1.take k) ++ frameN t0 rs1[k] by rw [List.take_succ_eq_append_getElem k1, catF_snoc])
        have HSH' : Hid (n' ≤ 300 → ∀ j (h : j < rs1.length), j < k + 1 → rs1[j].length ≤ 300) := Lib.hid (fun hn j h hj => by
          rcases Nat.lt_or_ge j k with h3 | h3
          · exact HSH.out j h h3
          · obtain rfl : j = k := by omega
            rw [hrl]; exact hn)
        generalize rs1[k] = rk at *
        by_cases g3 : 300 < n'
        · have d3 := decT (show (300 : Int) < n' by omega)
          go_wp2_with fail
          go_ret
          exact ⟨rfl, BB.out⟩
        · have d3 := decF (show ¬ (300 : Int) < n' by omega)
          obtain ⟨A7', n7', c7', hv7, hn7c, hc7m, rd7, hne7⟩ := RK.out
          injection hv7 with e1 e2 e3
          subst e1 e2 e3
          have R7 := Lib.hid rd7
          clear rd7 hne7
          go_wp2_with fail
          have hg4 : wr.drew.heap[w.heap.size]? = _ := GG.out
          refine rb_start (by kernel_rfl) ?_
          refine rb_take 0 (v := ?_) rfl (by kernel_rfl) (by kernel_rfl) (by kernel_rfl) (by rfl) ?_ ?_
          rotate_left
          · intro w' hb'
            have hcf := by first | exact bcellD hb' | exact bcell hb'
            obtain ⟨hcc, hff⟩ := hcf
            go_simp
            (try rfl)
          (try simp only [Act.put, List.setIfInBounds_toArray, List.set_cons_zero, List.set_cons_succ])
          refine rb_take_row 1 rfl (by kernel_rfl) (by kernel_rfl) (by kernel_rfl) (by rfl) 26 _ rfl _ rfl 26 (tabCells t0) (0, 0) _ (hg4) (by simp) Try.underlying26 rfl (tab_row _) ?_
          (try simp only [Act.put, List.setIfInBounds_toArray, List.set_cons_zero, List.set_cons_succ])
          refine rb_take 2 (v := ?_) rfl (by kernel_rfl) (by kernel_rfl) (by kernel_rfl) (by rfl) ?_ ?_
          rotate_left
          · intro w' hb'
            have hcf := by first | exact bcellD hb' | exact bcell hb'
            obtain ⟨hcc, hff⟩ := hcf
            go_simp
            (try rfl)
          (try simp only [Act.put, List.setIfInBounds_toArray, List.set_cons_zero, List.set_cons_succ])
          refine rb_take 3 (v := ?_) rfl (by kernel_rfl) (by kernel_rfl) (by kernel_rfl) (by rfl) ?_ ?_
          rotate_left
          · intro w' hb'
            have hcf := by first | exact bcellD hb' | exact bcell hb'
            obtain ⟨hcc, hff⟩ := hcf
            go_simp
            (try rfl)
          (try simp only [Act.put, List.setIfInBounds_toArray, List.set_cons_zero, List.set_cons_succ])
          refine rb_take 4 (v := ?_) rfl (by kernel_rfl) (by kernel_rfl) (by kernel_rfl) (by rfl) ?_ ?_
          rotate_left
          · intro w' hb'
            have hcf := by first | exact bcellD hb' | exact bcell hb'
            obtain ⟨hcc, hff⟩ := hcf
            go_simp
            (try rfl)
          (try simp only [Act.put, List.setIfInBounds_toArray, List.set_cons_zero, List.set_cons_succ])
          refine rb_take 5 (v := ?_) rfl (by kernel_rfl) (by kernel_rfl) (by kernel_rfl) (by rfl) ?_ ?_
          rotate_left
          · intro w' hb'
            have hcf := by first | exact bcellD hb' | exact bcell hb'
            obtain ⟨hcc, hff⟩ := hcf
            go_simp
            (try rfl)
          (try simp only [Act.put, List.setIfInBounds_toArray, List.set_cons_zero, List.set_cons_succ])
          refine rb_move 6 rfl (by kernel_rfl) (by rfl) (fun K hK => ?_)
          have HK := Lib.hid hK
          clear hK
          go_simp
          (with_reducible refine (fput_any _ _ _ (catF t0 (rs1.take k)) t0 ht0 _ _ _ rk _ R7.out.drew R'.out.drew (by omega) (by omega)).mono ?_)
          rintro e w5 ⟨A5, n5, c5, rfl, ho5, hb5⟩
          refine HK.out _ _ hb5 ?_
          clear HK K
          (try simp only [Act.put, List.setIfInBounds_toArray, List.set_cons_zero, List.set_cons_succ])
          rw [if_neg (by omega)] at ho5
          rw [if_neg (by omega)]
          refine rb_take 7 (v := ?_) rfl (by kernel_rfl) (by kernel_rfl) (by kernel_rfl) (by rfl) ?_ ?_
          rotate_left
          · intro w' hb'
            have hcf := by first | exact bcellD hb' | exact bcell hb'
            obtain ⟨hcc, hff⟩ := hcf
            go_simp
            (try rfl)
          (try simp only [Act.put, List.setIfInBounds_toArray, List.set_cons_zero, List.set_cons_succ])
          refine rb_take 8 (v := ?_) rfl (by kernel_rfl) (by kernel_rfl) (by kernel_rfl) (by rfl) ?_ ?_
          rotate_left
          · intro w' hb'
            have hcf := by first | exact bcellD hb' | exact bcell hb'
            obtain ⟨hcc, hff⟩ := hcf
            go_simp
            (try rfl)
          (try simp only [Act.put, List.setIfInBounds_toArray, List.set_cons_zero, List.set_cons_succ])
          refine rb_take 9 (v := ?_) rfl (by kernel_rfl) (by kernel_rfl) (by kernel_rfl) (by rfl) ?_ ?_
          rotate_left
          · intro w' hb'
            have hcf := by first | exact bcellD hb' | exact bcell hb'
            obtain ⟨hcc, hff⟩ := hcf
            go_simp
            (try rfl)
          (try simp only [Act.put, List.setIfInBounds_toArray, List.set_cons_zero, List.set_cons_succ])
          refine rb_take 10 (v := ?_) rfl (by kernel_rfl) (by kernel_rfl) (by kernel_rfl) (by rfl) ?_ ?_
          rotate_left
          · intro w' hb'
            have hcf := by first | exact bcellD hb' | exact bcell hb'
            obtain ⟨hcc, hff⟩ := hcf
            go_simp
            (try rfl)
          (try simp only [Act.put, List.setIfInBounds_toArray, List.set_cons_zero, List.set_cons_succ])
          refine rb_take 11 (v := ?_) rfl (by kernel_rfl) (by kernel_rfl) (by kernel_rfl) (by rfl) ?_ ?_
          rotate_left
          · intro w' hb'
            have hcf := by first | exact bcellD hb' | exact bcell hb'
            obtain ⟨hcc, hff⟩ := hcf
            go_simp
            (try rfl)
          (try simp only [Act.put, List.setIfInBounds_toArray, List.set_cons_zero, List.set_cons_succ])
          refine rb_done (by kernel_rfl) ?_
          have hn5 := ho5.len
          rw [List.length_append, frameN_len, hrl] at hn5
          have hcl : (catF t0 (rs1.take k)).length = n7 := HN7.out
          rw [hcl] at hn5
          have O5 := Lib.hid ho5
          have B5 := Lib.hid (BB.out.drew.trans (hb5.mono BB.out.drew.size))
          have BR5 := Lib.hid hb5
          have GG5 := Lib.hid (blk_keep hg4 hb5)
          have h1 : w.heap.size < wr.heap.size := (Array.getElem?_eq_some_iff.1 GG.out).1
          have h2 : wr.heap.size ≤ w5.heap.size := hb5.size
          have OV5 := Lib.hid (OV.out.below (show Below wr.heap.size wr w5 from (Below.refl wr.heap.size wr).drew.trans hb5))
          have RK5 : Hid (RowOk w5 (Value.slice A8 (k + 1) c8).ownBlock (.slice A5 n5 c5) (catF t0 (rs1.take (k + 1)))) := Lib.hid (by rw [HCS.out]; exact O5.out.rowOk fun g hg => (OV.out.lt g hg).2)
          have HE : Hid (endF t0 rs1 (k + 1) = n5) := Lib.hid (by rw [HSU.out, HN7.out]; omega)
          clear ho5 hb5 hg4 hcl
          go_wp2_with (first | (at_builtin; (with_reducible refine wpList_appI _ rfl _ _ rfl (w.heap.size + 1) _ _ _ _ rfl OV5.out _ rfl (by omega) ?_ ?_)))
          · omega
          intro A9 c9 w9 ho9 hg9 hown9
          have B9 := Lib.hid ((B5.out.alloc B5.out.size _).grown hg9 (by simp; exact Nat.le_succ_of_le B5.out.size) fun g hg => Nat.le_of_succ_le (OV.out.lt g hg).1)
          have GG9 : Hid (w9.heap[w.heap.size]? = some (Obj.cells (tabCells t0) 26)) := Lib.hid (by
            rw [hg9.block w.heap.size (by simp; omega) (fun e => by have := (OV.out.lt _ e.symm).1; omega)]
            exact (Below.heap_alloc w5 _ _ (by omega)).trans GG5.out)
          have RK9 := Lib.hid ((RK5.out.below ((Below.refl w5.heap.size w5).alloc (Nat.le_refl _) _)).grown hg9 (by rw [World.size_alloc]; exact hown9))
          have OV9 : Hid (OwnV 3 w9 (w.heap.size + 1) A9 (k + 1 + 1) c9 (endsV t0 rs1 (k + 1))) := Lib.hid (by rw [endsV_succ, HE.out]; exact ho9)
          clear ho9 hg9 hown9
          go_wp2
          go_roundw
          case rel => exact ⟨k + 1, n5, c5, c9, A5, A9, by omega, by go_num, rfl, rfl, HE.out, by omega, HSH'.out (by omega), RK9.out, OV9.out, B9.out, GG9.out⟩
          case measure => simp [intOf]; omega
      · have d2 := decF (show ¬ (k : Int) < n1 by omega)
        obtain rfl : k = n1 := by omega
        obtain ⟨A7', n7', c7', hv7, hn7c, hc7m, rd7, hne7⟩ := RK.out
        injection hv7 with e1 e2 e3
        subst e1 e2 e3
        rw [List.take_of_length_le (by omega)] at rd7
        have R7 := Lib.hid rd7
        have hcl := rd7.blen
        clear rd7 hne7
        have HCL := Lib.hid hcl
        clear hcl
        unfold maxLen at hc7m
        go_upto_region 17 with fail
        go_cut [59] (fun s wx => s = .bool (decide (a2 < 0 ∨ (n7 : Int) < a2)) ∧ wx = wr)
        case first =>
          by_cases g4 : a2 < 0
          · have d4 := decT g4
            have HD := Lib.hid (decT (show a2 < 0 ∨ (n7 : Int) < a2 by omega))
            go_wp2_with fail
            go_meet
            exact ⟨by rw [HD.out], rfl⟩
          · have d4 := decF g4
            by_cases g5 : (n7 : Int) < a2
            · have d5 := decT g5
              have HD := Lib.hid (decT (show a2 < 0 ∨ (n7 : Int) < a2 by omega))
              go_wp2_with fail
              go_meet
              exact ⟨by rw [HD.out], rfl⟩
            · have d5 := decF g5
              have HD := Lib.hid (decF (show ¬ (a2 < 0 ∨ (n7 : Int) < a2) by omega))
              go_wp2_with fail
              go_meet
              exact ⟨by rw [HD.out], rfl⟩
        case rest =>
          obtain ⟨rfl, rfl⟩ := hcut
          go_upto_if 59 with fail
          go_cut [2] (fun s wx => ∃ C : Nat, C ≤ n7 ∧ s = .int .i64 C ∧ wx = wc)
          case first =>
            by_cases g4 : a2 < 0 ∨ (n7 : Int) < a2
            · have d4 := decT g4
              go_wp2_with fail
              go_meet
              exact ⟨n7, Nat.le_refl _, rfl, rfl⟩
            · have d4 := decF g4
              go_wp2_with fail
              go_meet
              exact ⟨a2.toNat, by omega, int_eq (by omega), rfl⟩
          case rest =>
            obtain ⟨C, hC, rfl, rfl⟩ := hcut
            have HSR : Hid (∀ r ∈ rs1, r.length ≤ 60000) := Lib.hid (fun r hr => by
              obtain ⟨j, hj, rfl⟩ := List.getElem_of_mem hr
              have := HSH.out j hj (by omega)
              omega)
            obtain ⟨g, off, rfl, hgb, hce⟩ := OV.out.rd.2 (by omega)
            have HEC : Hid (∀ j, j ≤ k → wc.cell? ⟨g, off + j, none⟩ = some (.int .i64 (endF t0 rs1 j : Nat)) ∧ endF t0 rs1 j ≤ n7) := Lib.hid (fun j hj => ⟨by
              rw [hce j (by have := OV.out.len; omega), endsV_get t0 rs1 k j hj], by rw [← HN7.out]; exact endF_mono t0 rs1 hj⟩)
            clear hce
            go_wp2_with fail
            go_loop [12] (fun s12 => ∃ m : Nat, m ≤ k ∧ s12 = .int .i64 m ∧ endF t0 rs1 m ≤ C) (fun s12 => k - (intOf s12).toNat)
            case atStart => exact ⟨0, by omega, rfl, by rw [endF_zero]; omega⟩
            case round =>
              obtain ⟨m, hm, rfl, hmC⟩ := hrel
              obtain ⟨hc1, hl1'⟩ := HEC.out m hm
              have HMC := Lib.hid hmC
              obtain ⟨E1, hE1⟩ : ∃ E1, endF t0 rs1 m = E1 := ⟨_, rfl⟩
              rw [hE1] at hc1 hl1' hmC
              have HE1 := Lib.hid hE1
              clear hE1
              have d4 := decT (show (E1 : Int) ≤ C by omega)
              by_cases hcont : m < k ∧ endF t0 rs1 (m + 1) ≤ C
              · obtain ⟨hmk, hE2C⟩ := hcont
                have HC2 := Lib.hid hE2C
                obtain ⟨hc2, hl2'⟩ := HEC.out (m + 1) hmk
                generalize endF t0 rs1 (m + 1) = E2 at hc2 hl2' hE2C
                have d5 := decT (show (m : Int) < k by omega)
                have d6 := decT (show (E2 : Int) ≤ C by omega)
                go_wp2
                go_round
                case rel => exact ⟨m + 1, by omega, by go_num, HC2.out⟩
                case measure => simp [intOf]; omega
              · have HNO : Hid (m < rs1.length → C < endF t0 rs1 (m + 1)) := Lib.hid (fun h => by
                  apply Decidable.byContradiction
                  intro h3
                  exact hcont ⟨by omega, by omega⟩)
                clear hcont
                have HSC := Lib.hid (scanN_cut t0 rs1 HSR.out C m (by omega) HMC.out (by rw [HCL.out]; exact hC) HNO.out)
                have HRS := Lib.hid ((R1.out.below BB.out).take hm)
                have hC7 : (C : Int) ≤ c7 := by omega
                have hC7' : C ≤ c7 := by omega
                have hmc1 : (m : Int) ≤ c1 := by omega
                have hmc1' : m ≤ c1 := by omega
                have hg4 : wc.drew.heap[w.heap.size]? = _ := GG.out
                have HRT := Lib.hid (R7.out.btake hC)
                rcases Nat.lt_or_ge m k with hmk | hmk
                · have d5 := decT (show (m : Int) < k by omega)
                  obtain ⟨hc2, hl2'⟩ := HEC.out (m + 1) hmk
                  have hE2C := HNO.out (by omega)
                  generalize endF t0 rs1 (m + 1) = E2 at hc2 hl2' hE2C
                  have d6 := decF (show ¬ (E2 : Int) ≤ C by omega)
                  go_wp2_with fail
                  refine rb_start (by kernel_rfl) ?_
                  refine rb_take 0 (v := ?_) rfl (by kernel_rfl) (by kernel_rfl) (by kernel_rfl) (by rfl) ?_ ?_
                  rotate_left
                  · intro w' hb'
                    have hcf := by first | exact bcellD hb' | exact bcell hb'
                    obtain ⟨hcc, hff⟩ := hcf
                    go_simp
                    (try rfl)
                  (try simp only [Act.put, List.setIfInBounds_toArray, List.set_cons_zero, List.set_cons_succ])
                  refine rb_take 1 (v := ?_) rfl (by kernel_rfl) (by kernel_rfl) (by kernel_rfl) (by rfl) ?_ ?_
                  rotate_left
                  · intro w' hb'
                    have hcf := by first | exact bcellD hb' | exact bcell hb'
                    obtain ⟨hcc, hff⟩ := hcf
                    go_simp
                    (try rfl)
                  (try simp only [Act.put, List.setIfInBounds_toArray, List.set_cons_zero, List.set_cons_succ])
                  refine rb_take 2 (v := ?_) rfl (by kernel_rfl) (by kernel_rfl) (by kernel_rfl) (by rfl) ?_ ?_
                  rotate_left
                  · intro w' hb'
                    have hcf := by first | exact bcellD hb' | exact bcell hb'
                    obtain ⟨hcc, hff⟩ := hcf
                    go_simp
                    (try rfl)
                  (try simp only [Act.put, List.setIfInBounds_toArray, List.set_cons_zero, List.set_cons_succ])
                  refine rb_take_row 3 rfl (by kernel_rfl) (by kernel_rfl) (by kernel_rfl) (by rfl) 26 _ rfl _ rfl 26 (tabCells t0) (0, 0) _ (hg4) (by simp) Try.underlying26 rfl (tab_row _) ?_
                  (try simp only [Act.put, List.setIfInBounds_toArray, List.set_cons_zero, List.set_cons_succ])
                  refine rb_move 4 rfl (by kernel_rfl) (by rfl) (fun K hK => ?_)
                  have HK := Lib.hid hK
                  clear hK
                  go_simp
                  (with_reducible refine (fscan_any _ _ _ ((catF t0 rs1).take C) t0 ht0 _ HRT.out.drew hC7' (by omega) (by omega)).mono ?_)
                  rintro e w5 ⟨A5, n5, c5, rfl, ho5, hb5⟩
                  refine HK.out _ _ hb5 ?_
                  clear HK K
                  (try simp only [Act.put, List.setIfInBounds_toArray, List.set_cons_zero, List.set_cons_succ])
                  rw [HSC.out] at ho5
                  rw [HSC.out]
                  refine rb_take 5 (v := ?_) rfl (by kernel_rfl) (by kernel_rfl) (by kernel_rfl) (by rfl) ?_ ?_
                  rotate_left
                  · intro w' hb'
                    have hcf := by first | exact bcellD hb' | exact bcell hb'
                    obtain ⟨hcc, hff⟩ := hcf
                    go_simp
                    (try rfl)
                  (try simp only [Act.put, List.setIfInBounds_toArray, List.set_cons_zero, List.set_cons_succ])
                  refine rb_take 6 (v := ?_) rfl (by kernel_rfl) (by kernel_rfl) (by kernel_rfl) (by rfl) ?_ ?_
                  rotate_left
                  · intro w' hb'
                    have hcf := by first | exact bcellD hb' | exact bcell hb'
                    obtain ⟨hcc, hff⟩ := hcf
                    go_simp
                    (try rfl)
                  (try simp only [Act.put, List.setIfInBounds_toArray, List.set_cons_zero, List.set_cons_succ])
                  refine rb_take 7 (v := ?_) rfl (by kernel_rfl) (by kernel_rfl) (by kernel_rfl) (by rfl) ?_ ?_
                  rotate_left
                  · intro w' hb'
                    have hcf := by first | exact bcellD hb' | exact bcell hb'
                    obtain ⟨hcc, hff⟩ := hcf
                    go_simp
                    (try rfl)
                  (try simp only [Act.put, List.setIfInBounds_toArray, List.set_cons_zero, List.set_cons_succ])
                  refine rb_take 8 (v := ?_) rfl (by kernel_rfl) (by kernel_rfl) (by kernel_rfl) (by rfl) ?_ ?_
                  rotate_left
                  · intro w' hb'
                    have hcf := by first | exact bcellD hb' | exact bcell hb'
                    obtain ⟨hcc, hff⟩ := hcf
                    go_simp
                    (try rfl)
                  (try simp only [Act.put, List.setIfInBounds_toArray, List.set_cons_zero, List.set_cons_succ])
                  refine rb_take 9 (v := ?_) rfl (by kernel_rfl) (by kernel_rfl) (by kernel_rfl) (by rfl) ?_ ?_
                  rotate_left
                  · intro w' hb'
                    have hcf := by first | exact bcellD hb' | exact bcell hb'
                    obtain ⟨hcc, hff⟩ := hcf
                    go_simp
                    (try rfl)
                  (try simp only [Act.put, List.setIfInBounds_toArray, List.set_cons_zero, List.set_cons_succ])
                  refine rb_done (by kernel_rfl) ?_
                  have B5 := Lib.hid (BB.out.drew.trans (hb5.mono BB.out.drew.size))
                  have O5 := Lib.hid ho5
                  have hn5 := ho5.len
                  rw [List.length_take] at hn5
                  have HR5 := Lib.hid (HRS.out.below (show Below wc.heap.size wc w5 from (Below.refl wc.heap.size wc).drew.trans hb5))
                  have hc5 : w5.cell? ⟨g, off + m, none⟩ = some (.int .i64 (E1 : Nat)) := (hb5.cell (p := ⟨g, off + m, none⟩) hgb).trans hc1
                  have d7 : ((E1 : Int) == E1) = true := by simp
                  have hE1' := HE1.out
                  rw [hE1']
                  clear ho5 hb5 hc1 hE1'
                  go_wp2_with fail
                  (with_reducible refine (same_any _ _ _ (rs1.take m) _ _ _ (rs1.take m) _ O5.out.rd HR5.out (by omega) (by omega)).mono ?_)
                  rintro e w6 ⟨rfl, hb6⟩
                  rw [show decide (rs1.take m = rs1.take m) = true from decT rfl]
                  have B6 := Lib.hid (B5.out.trans (hb6.mono B5.out.size))
                  clear hb6
                  go_wp2_with fail
                  go_ret
                  exact ⟨rfl, B6.out⟩
                · have d5 := decF (show ¬ (m : Int) < k by omega)
                  go_wp2_with fail
                  refine rb_start (by kernel_rfl) ?_
                  refine rb_take 0 (v := ?_) rfl (by kernel_rfl) (by kernel_rfl) (by kernel_rfl) (by rfl) ?_ ?_
                  rotate_left
                  · intro w' hb'
                    have hcf := by first | exact bcellD hb' | exact bcell hb'
                    obtain ⟨hcc, hff⟩ := hcf
                    go_simp
                    (try rfl)
                  (try simp only [Act.put, List.setIfInBounds_toArray, List.set_cons_zero, List.set_cons_succ])
                  refine rb_take 1 (v := ?_) rfl (by kernel_rfl) (by kernel_rfl) (by kernel_rfl) (by rfl) ?_ ?_
                  rotate_left
                  · intro w' hb'
                    have hcf := by first | exact bcellD hb' | exact bcell hb'
                    obtain ⟨hcc, hff⟩ := hcf
                    go_simp
                    (try rfl)
                  (try simp only [Act.put, List.setIfInBounds_toArray, List.set_cons_zero, List.set_cons_succ])
                  refine rb_take 2 (v := ?_) rfl (by kernel_rfl) (by kernel_rfl) (by kernel_rfl) (by rfl) ?_ ?_
                  rotate_left
                  · intro w' hb'
                    have hcf := by first | exact bcellD hb' | exact bcell hb'
                    obtain ⟨hcc, hff⟩ := hcf
                    go_simp
                    (try rfl)
                  (try simp only [Act.put, List.setIfInBounds_toArray, List.set_cons_zero, List.set_cons_succ])
                  refine rb_take_row 3 rfl (by kernel_rfl) (by kernel_rfl) (by kernel_rfl) (by rfl) 26 _ rfl _ rfl 26 (tabCells t0) (0, 0) _ (hg4) (by simp) Try.underlying26 rfl (tab_row _) ?_
                  (try simp only [Act.put, List.setIfInBounds_toArray, List.set_cons_zero, List.set_cons_succ])
                  refine rb_move 4 rfl (by kernel_rfl) (by rfl) (fun K hK => ?_)
                  have HK := Lib.hid hK
                  clear hK
                  go_simp
                  (with_reducible refine (fscan_any _ _ _ ((catF t0 rs1).take C) t0 ht0 _ HRT.out.drew hC7' (by omega) (by omega)).mono ?_)
                  rintro e w5 ⟨A5, n5, c5, rfl, ho5, hb5⟩
                  refine HK.out _ _ hb5 ?_
                  clear HK K
                  (try simp only [Act.put, List.setIfInBounds_toArray, List.set_cons_zero, List.set_cons_succ])
                  rw [HSC.out] at ho5
                  rw [HSC.out]
                  refine rb_take 5 (v := ?_) rfl (by kernel_rfl) (by kernel_rfl) (by kernel_rfl) (by rfl) ?_ ?_
                  rotate_left
                  · intro w' hb'
                    have hcf := by first | exact bcellD hb' | exact bcell hb'
                    obtain ⟨hcc, hff⟩ := hcf
                    go_simp
                    (try rfl)
                  (try simp only [Act.put, List.setIfInBounds_toArray, List.set_cons_zero, List.set_cons_succ])
                  refine rb_take 6 (v := ?_) rfl (by kernel_rfl) (by kernel_rfl) (by kernel_rfl) (by rfl) ?_ ?_
                  rotate_left
                  · intro w' hb'
                    have hcf := by first | exact bcellD hb' | exact bcell hb'
                    obtain ⟨hcc, hff⟩ := hcf
                    go_simp
                    (try rfl)
                  (try simp only [Act.put, List.setIfInBounds_toArray, List.set_cons_zero, List.set_cons_succ])
                  refine rb_take 7 (v := ?_) rfl (by kernel_rfl) (by kernel_rfl) (by kernel_rfl) (by rfl) ?_ ?_
                  rotate_left
                  · intro w' hb'
                    have hcf := by first | exact bcellD hb' | exact bcell hb'
                    obtain ⟨hcc, hff⟩ := hcf
                    go_simp
                    (try rfl)
                  (try simp only [Act.put, List.setIfInBounds_toArray, List.set_cons_zero, List.set_cons_succ])
                  refine rb_take 8 (v := ?_) rfl (by kernel_rfl) (by kernel_rfl) (by kernel_rfl) (by rfl) ?_ ?_
                  rotate_left
                  · intro w' hb'
                    have hcf := by first | exact bcellD hb' | exact bcell hb'
                    obtain ⟨hcc, hff⟩ := hcf
                    go_simp
                    (try rfl)
                  (try simp only [Act.put, List.setIfInBounds_toArray, List.set_cons_zero, List.set_cons_succ])
                  refine rb_take 9 (v := ?_) rfl (by kernel_rfl) (by kernel_rfl) (by kernel_rfl) (by rfl) ?_ ?_
                  rotate_left
                  · intro w' hb'
                    have hcf := by first | exact bcellD hb' | exact bcell hb'
                    obtain ⟨hcc, hff⟩ := hcf
                    go_simp
                    (try rfl)
                  (try simp only [Act.put, List.setIfInBounds_toArray, List.set_cons_zero, List.set_cons_succ])
                  refine rb_done (by kernel_rfl) ?_
                  have B5 := Lib.hid (BB.out.drew.trans (hb5.mono BB.out.drew.size))
                  have O5 := Lib.hid ho5
                  have hn5 := ho5.len
                  rw [List.length_take] at hn5
                  have HR5 := Lib.hid (HRS.out.below (show Below wc.heap.size wc w5 from (Below.refl wc.heap.size wc).drew.trans hb5))
                  have hc5 : w5.cell? ⟨g, off + m, none⟩ = some (.int .i64 (E1 : Nat)) := (hb5.cell (p := ⟨g, off + m, none⟩) hgb).trans hc1
                  have d7 : ((E1 : Int) == E1) = true := by simp
                  have hE1' := HE1.out
                  rw [hE1']
                  clear ho5 hb5 hc1 hE1'
                  go_wp2_with fail
                  (with_reducible refine (same_any _ _ _ (rs1.take m) _ _ _ (rs1.take m) _ O5.out.rd HR5.out (by omega) (by omega)).mono ?_)
                  rintro e w6 ⟨rfl, hb6⟩
                  rw [show decide (rs1.take m = rs1.take m) = true from decT rfl]
                  have B6 := Lib.hid (B5.out.trans (hb6.mono B5.out.size))
                  clear hb6
                  go_wp2_with fail
                  go_ret
                  exact ⟨rfl, B6.out⟩
end Go.Proofs.Ytkihdgkcdnepbaa
