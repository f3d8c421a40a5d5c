/- Frame, walks: Get, Size of the package frame. Conditions: slices shorter than 2^46. -/
import Derived.Test.YtkihdgkcdnepbaaFrameW
namespace Go.Proofs.Ytkihdgkcdnepbaa
set_option linter.unusedSimpArgs false
set_option linter.unusedVariables false
open Go.RowKit

def fgetN (t : Nat → Nat) (l : List UInt8) (at_ : Int) : List UInt8 × Int × Int :=
  if at_ < 0 ∨ (l.length : Int) < at_ then ([], 0, 2) else match fget t (l.drop at_.toNat) with | none => ([], 0, 8) | some b => (b, at_ + 8 + (b.length : Nat), 0)
def RetG (w : World) (p : List UInt8 × Int × Int) (e : Ending) (w' : World) : Prop := ∃ A n c, e = .returned (.tuple #[.slice A n c, .int .i64 p.2.1, .int .i64 p.2.2]) ∧ OwnB w' w.heap.size A n c p.1 ∧ Below w.heap.size w w'

set_option maxHeartbeats 400000 in
theorem fsize_any (n : Int) (w : World) : Calls Try.prog 30 #[.int .i64 n] w fun e w' => e = .returned (.int .i64 (if n < 0 ∨ 60000 < n then 0 else n + 8)) ∧ w = w' := by
  by_cases h1 : n < 0
  · rw [if_pos (.inl h1)]
    have d1 := decT h1
    go_enter Try.func30, Try.ntmps30
    go_wp2_with fail
    go_ret
    exact ⟨rfl, rfl⟩
  · have d1 := decF h1
    by_cases h2 : 60000 < n
    · rw [if_pos (.inr h2)]
      have d2 := decT h2
      go_enter Try.func30, Try.ntmps30
      go_wp2_with fail
      go_ret
      exact ⟨rfl, rfl⟩
    · rw [if_neg (by omega)]
      have d2 := decF h2
      go_enter Try.func30, Try.ntmps30
      go_wp2_with fail
      go_ret
      exact ⟨ret_int (by omega), rfl⟩

set_option maxHeartbeats 2000000 in
theorem fget_any (A0 : Option Addr) (n0 c0 : Nat) (l0 : List UInt8) (at_ : Int) (t : Nat → Nat) (ht : ∀ i, i < 256 → t i < 4294967296) (w : World)
    (h0 : Rd w w.heap.size 1 A0 n0 (bvs l0)) (hnc : n0 ≤ c0) (hn0 : n0 ≤ 35184372088832) (hc63 : c0 ≤ 9223372036854775807) :
    Calls Try.prog 29 #[.slice A0 n0 c0, .int .i64 at_, .agg (tabCells t)] w (RetG w (fgetN t l0 at_)) := by
  have hl0 := h0.blen
  have R00 := Lib.hid h0
  have R0 := Lib.hid (h0.alloc' (Obj.cells (tabCells t) 26))
  have B0 := Lib.hid ((Below.refl w.heap.size w).alloc (Nat.le_refl _) (Obj.cells (tabCells t) 26))
  have HG0 := Lib.hid (heap_alloc_new w (Obj.cells (tabCells t) 26))
  clear h0
  go_enter Try.func29, Try.ntmps29
  go_wp2_with fail
  refine wp_scope_goto 0 (fun a' w' => ∃ u : Nat → Value, a' = { tmps := #[u 0, u 1, u 2, u 3, u 4, u 5, u 6, u 7, u 8, u 9, u 10, u 11, u 12, u 13, u 14, u 15, u 16, u 17, u 18, u 19, u 20, u 21, u 22, u 23, u 24, u 25, u 26, u 27, u 28, u 29, u 30, u 31, u 32, u 33, u 34, u 35, u 36, u 37, u 38, u 39, u 40, u 41, u 42, u 43, u 44, u 45, u 46, u 47, u 48, u 49, u 50, u 51, u 52, u 53, u 54, u 55, u 56, u 57, u 58, u 59, u 60, u 61], defers := [] } ∧ (Below w.heap.size w w' ∧ fgetN t l0 at_ = ([], 0, 8))) (fun a' w' => 0) rfl ?_ ?_
  · intro Qv HG HJ0 HQ
    by_cases g1 : at_ < 0
    · have d1 := decT g1
      have HF := Lib.hid (show fgetN t l0 at_ = ([], 0, 2) by unfold fgetN; rw [if_pos (by omega)])
      go_wp2_with fail
      refine HQ.out _ _ _ ?_ (by simp)
      go_ret3
      exact ⟨none, 0, 0, by rw [HF.out]; rfl, by rw [HF.out]; exact OwnB.nil_ _ _, B0.out⟩
    · have d1 := decF g1
      by_cases g2 : (n0 : Int) < at_
      · have d2 := decT g2
        have HF := Lib.hid (show fgetN t l0 at_ = ([], 0, 2) by unfold fgetN; rw [if_pos (by omega)])
        go_wp2_with fail
        refine HQ.out _ _ _ ?_ (by simp)
        go_ret3
        exact ⟨none, 0, 0, by rw [HF.out]; rfl, by rw [HF.out]; exact OwnB.nil_ _ _, B0.out⟩
      · have d2 := decF g2
        obtain ⟨k, rfl⟩ : ∃ k : Nat, at_ = k := ⟨at_.toNat, by omega⟩
        have HF := Lib.hid (show fgetN t l0 k = match fget t (l0.drop k) with | none => ([], 0, 8) | some b => (b, (k : Int) + 8 + (b.length : Nat), 0) by unfold fgetN; rw [if_neg (by omega), Int.toNat_natCast])
        have hk : k ≤ n0 := by omega
        have hkc : k ≤ c0 := by omega
        have hdl : (l0.drop k).length = n0 - k := by rw [List.length_drop, hl0]
        have HDL := Lib.hid hdl
        clear hdl
        by_cases g3 : n0 - k < 8
        · have d3 := decT (show ((n0 - k : Nat) : Int) < 8 by omega)
          have d3' := decT (show (n0 : Int) - k < 8 by omega)
          have d3'' := decT (show n0 - k < 8 by omega)
          have HE := Lib.hid (show fgetN t l0 k = ([], 0, 8) by rw [HF.out, fget, if_pos (by rw [HDL.out]; omega)])
          go_wp2_with fail
          all_goals
            go_step3
            refine HJ0.out _ _ ?_
            refine jgive rfl ?_
            exact ⟨B0.out, HE.out⟩
        · obtain ⟨b, off, hkl, rfl, hb, hcc, hy⟩ := R00.out.byte (show k < n0 by omega)
          clear hcc hy
          have q1 : ¬ c0 = k := by omega
          have d3 := decF (show ¬ ((n0 - k : Nat) : Int) < 8 by omega)
          have d3' := decF (show ¬ (n0 : Int) - k < 8 by omega)
          have d3'' := decF (show ¬ n0 - k < 8 by omega)
          have RR := Lib.hid (R0.out.sub k (n0 - k) (by omega))
          rw [List.take_of_length_le (by rw [HDL.out]; omega)] at RR
          generalize l0.drop k = r at *
          have hnum := num_lt (r.take 4)
          have hn4 : num (r.take 4) < 4294967296 := by
            have h1 : 256 ^ (r.take 4).length ≤ 256 ^ 4 := Nat.pow_le_pow_right (by omega) (by rw [List.length_take]; omega)
            have h2 : (256 : Nat) ^ 4 = 4294967296 := by decide
            omega
          clear hnum
          go_wp2_with fail
          (with_reducible refine (number_any _ _ _ r _ RR.out (by omega) (by omega)).mono ?_)
          rintro e w1 ⟨rfl, hb1⟩
          have B01 := Lib.hid hb1
          clear hb1
          have B1 := Lib.hid (B0.out.trans (B01.out.mono B0.out.size))
          generalize hN : num (r.take 4) = N at *
          have HN := Lib.hid hN
          clear hN
          have HE0 := Lib.hid (show 60000 < N ∨ n0 - k < 8 + N → fgetN t l0 k = ([], 0, 8) by
            intro h
            rw [HF.out, fget, if_neg (by rw [HDL.out]; omega), HN.out, if_pos (by rw [HDL.out]; exact h)])
          by_cases g4 : 60000 < N
          · have d4 := decT (show (60000 : Int) < N by omega)
            have HE := Lib.hid (HE0.out (.inl g4))
            go_wp2_with fail
            go_step3
            refine HJ0.out _ _ ?_
            refine jgive rfl ?_
            exact ⟨B1.out, HE.out⟩
          · have d4 := decF (show ¬ (60000 : Int) < N by omega)
            by_cases g5 : n0 - k < 8 + N
            · have d5 := decT (show ((n0 - k : Nat) : Int) - 8 < N by omega)
              have d5' := decT (show (n0 : Int) - k - 8 < N by omega)
              have HE := Lib.hid (HE0.out (.inr g5))
              go_wp2_with fail
              go_step3
              refine HJ0.out _ _ ?_
              refine jgive rfl ?_
              exact ⟨B1.out, HE.out⟩
            · have d5 := decF (show ¬ ((n0 - k : Nat) : Int) - 8 < N by omega)
              have d5' := decF (show ¬ (n0 : Int) - k - 8 < N by omega)
              have hNk : 8 + N ≤ n0 - k := by omega
              have RBd : Hid (Rd w1.drew w1.drew.heap.size 1 (if c0 - k = 8 then some ⟨b, off + k, none⟩ else some ⟨b, off + k + 8, none⟩) N (bvs ((r.drop 8).take N))) := by
                have hx := (((RR.out.sub 8 N (by omega)).below' B01.out).below' (Below.refl _ _).drew)
                split
                · rename_i hq
                  obtain rfl : N = 0 := by omega
                  exact Rd.none_
                · exact hx
              have R4 := Lib.hid ((((RR.out.btake (k := 4) (by omega)).below' B01.out).below' (Below.refl _ _).drew))
              have R5 := Lib.hid ((((RR.out.sub 4 (n0 - k - 4) (by omega)).below' B01.out).below' (Below.refl _ _).drew))
              rw [List.take_of_length_le (by rw [List.length_drop, HDL.out]; omega)] at R5
              have hg1 : w1.drew.heap[w.heap.size]? = _ := blk_keep (blk_keep HG0.out B01.out) (Below.refl w1.heap.size w1).drew
              have HF2 := Lib.hid (show fgetN t l0 k = match (if num ((r.drop 4).take 4) = ofN t (r.take 4 ++ (r.drop 8).take N) then some ((r.drop 8).take N) else none) with | none => ([], 0, 8) | some b => (b, (k : Int) + 8 + (b.length : Nat), 0) by
                rw [HF.out, fget, if_neg (by rw [HDL.out]; omega), HN.out, if_neg (by rw [HDL.out]; omega)])
              have HBL := Lib.hid (show ((r.drop 8).take N).length = N by rw [List.length_take, List.length_drop, HDL.out]; omega)
              have q3 : ¬ c0 - k = 4 := by omega
              have q4 : 8 + N ≤ c0 - k := by omega
              have q4' : (8 : Int) + N ≤ ((c0 - k : Nat) : Int) := by omega
              have q5 : 4 ≤ n0 - k := by omega
              have q6 : 4 ≤ c0 - k := by omega
              have q5' : (4 : Int) ≤ ((n0 - k : Nat) : Int) := by omega
              have q6' : (4 : Int) ≤ ((c0 - k : Nat) : Int) := by omega
              have q7 : 8 + N - 8 = N := by omega
              obtain ⟨AD, hAD⟩ : ∃ AD : Option Addr, (if c0 - k = 8 then some (⟨b, off + k, none⟩ : Addr) else some ⟨b, off + k + 8, none⟩) = AD := ⟨_, rfl⟩
              rw [hAD] at RBd
              go_wp2_with fail
              refine rb_start (by kernel_rfl) ?_
              refine rb_take 0 (v := ?_) rfl (by kernel_rfl) (by kernel_rfl) (by kernel_rfl) (by rfl) ?_ ?_
              rotate_left
              · intro w' hb'
                have hcf := by first | exact bcellD hb' | exact bcell hb'
                obtain ⟨hcc, hff⟩ := hcf
                go_simp
                (try rfl)
              (try simp only [Act.put, List.setIfInBounds_toArray, List.set_cons_zero, List.set_cons_succ])
              refine rb_take 1 (v := ?_) rfl (by kernel_rfl) (by kernel_rfl) (by kernel_rfl) (by rfl) ?_ ?_
              rotate_left
              · intro w' hb'
                have hcf := by first | exact bcellD hb' | exact bcell hb'
                obtain ⟨hcc, hff⟩ := hcf
                go_simp
                (try rfl)
              (try simp only [Act.put, List.setIfInBounds_toArray, List.set_cons_zero, List.set_cons_succ])
              refine rb_take_row 3 rfl (by kernel_rfl) (by kernel_rfl) (by kernel_rfl) (by rfl) 26 _ rfl _ rfl 26 (tabCells t) (0, 0) _ (hg1) (by simp) Try.underlying26 rfl (tab_row _) ?_
              (try simp only [Act.put, List.setIfInBounds_toArray, List.set_cons_zero, List.set_cons_succ])
              refine rb_take_row 4 rfl (by kernel_rfl) (by kernel_rfl) (by kernel_rfl) (by rfl) 26 _ rfl _ rfl 26 (tabCells t) (0, 0) _ (hg1) (by simp) Try.underlying26 rfl (tab_row _) ?_
              (try simp only [Act.put, List.setIfInBounds_toArray, List.set_cons_zero, List.set_cons_succ])
              refine rb_take 5 (v := ?_) rfl (by kernel_rfl) (by kernel_rfl) (by kernel_rfl) (by rfl) ?_ ?_
              rotate_left
              · intro w' hb'
                have hcf := by first | exact bcellD hb' | exact bcell hb'
                obtain ⟨hcc, hff⟩ := hcf
                go_simp
                (try rfl)
              (try simp only [Act.put, List.setIfInBounds_toArray, List.set_cons_zero, List.set_cons_succ])
              refine rb_take 6 (v := ?_) rfl (by kernel_rfl) (by kernel_rfl) (by kernel_rfl) (by rfl) ?_ ?_
              rotate_left
              · intro w' hb'
                have hcf := by first | exact bcellD hb' | exact bcell hb'
                obtain ⟨hcc, hff⟩ := hcf
                go_simp
                (try rfl)
              (try simp only [Act.put, List.setIfInBounds_toArray, List.set_cons_zero, List.set_cons_succ])
              refine rb_take 8 (v := ?_) rfl (by kernel_rfl) (by kernel_rfl) (by kernel_rfl) (by rfl) ?_ ?_
              rotate_left
              · intro w' hb'
                have hcf := by first | exact bcellD hb' | exact bcell hb'
                obtain ⟨hcc, hff⟩ := hcf
                go_simp
                (try rfl)
              (try simp only [Act.put, List.setIfInBounds_toArray, List.set_cons_zero, List.set_cons_succ])
              refine rb_move 2 rfl (by kernel_rfl) (by rfl) (fun K hK => ?_)
              have HK := Lib.hid hK
              clear hK
              go_simp
              (with_reducible refine (number_any _ _ _ (r.drop 4) _ R5.out (by omega) (by omega)).mono ?_)
              rintro e w2 ⟨rfl, hb2⟩
              refine HK.out _ _ hb2 ?_
              clear HK K
              (try simp only [Act.put, List.setIfInBounds_toArray, List.set_cons_zero, List.set_cons_succ])
              have B2 := Lib.hid (B1.out.drew.trans (hb2.mono B1.out.size))
              have B12 := Lib.hid hb2
              clear hb2
              refine rb_move 7 rfl (by kernel_rfl) (by rfl) (fun K hK => ?_)
              have HK := Lib.hid hK
              clear hK
              go_simp
              (with_reducible refine (of_any t ht _ _ _ _ (r.take 4) (R4.out.below' B12.out) (by omega)).mono ?_)
              rintro e w3 ⟨rfl, hb3⟩
              refine HK.out _ _ hb3 ?_
              clear HK K
              (try simp only [Act.put, List.setIfInBounds_toArray, List.set_cons_zero, List.set_cons_succ])
              have B3 := Lib.hid (B2.out.trans (hb3.mono B2.out.size))
              have B13 := Lib.hid (B12.out.trans (hb3.mono B12.out.size))
              clear hb3
              refine rb_move 9 rfl (by kernel_rfl) (by rfl) (fun K hK => ?_)
              have HK := Lib.hid hK
              clear hK
              go_simp
              (with_reducible refine (on_any t ht (ofN t (r.take 4)) (ofN_lt _) _ rfl _ _ _ _ ((r.drop 8).take N) (RBd.out.below' B13.out) (by omega)).mono ?_)
              rintro e w4 ⟨rfl, hb4⟩
              refine HK.out _ _ hb4 ?_
              clear HK K
              (try simp only [Act.put, List.setIfInBounds_toArray, List.set_cons_zero, List.set_cons_succ])
              have B4 := Lib.hid (B3.out.trans (hb4.mono B3.out.size))
              have B14 := Lib.hid (B13.out.trans (hb4.mono B13.out.size))
              clear hb4
              rw [onN_ofN ht]
              refine rb_take 10 (v := ?_) rfl (by kernel_rfl) (by kernel_rfl) (by kernel_rfl) (by rfl) ?_ ?_
              rotate_left
              · intro w' hb'
                have hcf := by first | exact bcellD hb' | exact bcell hb'
                obtain ⟨hcc, hff⟩ := hcf
                go_simp
                (try rfl)
              (try simp only [Act.put, List.setIfInBounds_toArray, List.set_cons_zero, List.set_cons_succ])
              refine rb_done (by kernel_rfl) ?_
              generalize (r.drop 8).take N = body at *
              by_cases g6 : num ((r.drop 4).take 4) = ofN t (r.take 4 ++ body)
              · have HE := Lib.hid (show fgetN t l0 k = (body, (k : Int) + 8 + (N : Nat), 0) by rw [HF2.out, if_pos g6]; simp only [HBL.out])
                have e6 : ((num ((r.drop 4).take 4) : Int) != (ofN t (r.take 4 ++ body) : Int)) = false := by simp; omega
                have e6' : (num ((r.drop 4).take 4) != ofN t (r.take 4 ++ body)) = false := by simp; omega
                clear g6
                go_wp2_with (first | (at_builtin; (with_reducible refine wpList_app _ rfl _ _ rfl w.heap.size _ _ _ [] rfl (OwnB.empty _ B4.out.size) _ _ _ body rfl ?_ ?_ ?_ ?_)))
                · exact (RBd.out.below' B14.out).alloc' _
                · omega
                · first | exact Nat.le_succ_of_le B4.out.size | (simp; exact Nat.le_succ_of_le B4.out.size)
                intro A5 c5 w5 ho5 hg5 _
                have B5 := Lib.hid ((B4.out.alloc B4.out.size _).grown hg5 (by simp; exact Nat.le_succ_of_le B4.out.size) fun k hk => by simp [Value.ownBlock] at hk; subst hk; exact B4.out.size)
                have O5 := Lib.hid ho5
                clear ho5 hg5
                go_wp2_with fail
                refine HQ.out _ _ _ ?_ (by simp)
                go_ret3
                exact ⟨_, _, _, by rw [HE.out]; rfl, by rw [HE.out]; simpa using O5.out, B5.out⟩
              · have HE := Lib.hid (show fgetN t l0 k = ([], 0, 8) by rw [HF2.out, if_neg g6])
                have e6 : ((num ((r.drop 4).take 4) : Int) != (ofN t (r.take 4 ++ body) : Int)) = true := by simp; omega
                have e6' : (num ((r.drop 4).take 4) != ofN t (r.take 4 ++ body)) = true := by simp; omega
                clear g6
                go_wp2_with fail
                go_step3
                refine HJ0.out _ _ ?_
                refine jgive rfl ?_
                exact ⟨B4.out, HE.out⟩
  · rintro a' w' ⟨u, rfl, hB, hF⟩
    intro Qv HJ HQ
    have HF := Lib.hid hF
    have B1 := Lib.hid hB
    clear hB hF
    go_wp2_with fail
    refine HQ.out _ _ _ ?_ (by simp)
    go_ret3
    exact ⟨none, 0, 0, by rw [HF.out]; rfl, by rw [HF.out]; exact OwnB.nil_ _ _, B1.out⟩
end Go.Proofs.Ytkihdgkcdnepbaa
