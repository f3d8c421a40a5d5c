/- The law SchemaFinds, walked over abstract states. No conditions. -/
import Derived.Test.YtfnpgaiaebkkmaaSchB
import Derived.Test.YtfnpgaiaebkkmaaOpF
namespace Go.Proofs.Ytfnpgaiaebkkmaa
set_option linter.unusedSimpArgs false
set_option linter.unusedVariables false
set_option maxRecDepth 100000
open Go.RowKit

def rootD : List FldD := [⟨⟨0, [], [99, 111, 117, 112, 111, 110]⟩, 2, [], [], 0⟩, ⟨⟨1, [], [110, 111, 116, 101]⟩, 2, [], [], 0⟩, ⟨⟨1, [], [113, 116, 121]⟩, 1, [], [], 1⟩, ⟨⟨1, [], [115, 105, 122, 101]⟩, 3, [109, 101, 100, 105, 117, 109], [[115, 109, 97, 108, 108], [109, 101, 100, 105, 117, 109], [108, 97, 114, 103, 101]], 0⟩, ⟨⟨1, [], [116, 97, 103, 115]⟩, 4, [], [], 0⟩]
theorem root_right : rightS rootD = true := by decide +kernel
theorem root_c : AC Try.prog 12 [] (fun x => x = .s (.sl (rootD.map FldD.cs))) := by
  refine AC.of (t0 := [AV.sc undef, AV.sc undef, AV.sc undef, AV.sc undef, AV.sc undef, AV.sc undef, AV.sc undef, AV.sc undef, AV.sc undef, AV.sc undef, AV.sc undef, AV.sc undef, AV.sc undef]) 2 Try.func12 rfl rfl ?_
  change AW _ _ _ _ [TK.mk 0 .off, TK.mk 0 .off]
  refine AW.seq ?_
  refine AW.region ?_
  refine AL.r (rd_assign rfl rfl) ?_
  refine AL.nil ?_
  change AW _ _ _ _ _
  refine AW.seq ?_
  refine AW.region ?_
  refine AL.r (rd_build rfl pl_27 ze_27 rfl rfl) ?_
  refine AL.r (rd_build rfl pl_30 ze_30 rfl rfl) ?_
  refine AL.r (rd_build rfl pl_27 ze_27 rfl rfl) ?_
  refine AL.r (rd_build rfl pl_30 ze_30 rfl rfl) ?_
  refine AL.r (rd_build rfl pl_27 ze_27 rfl rfl) ?_
  refine AL.r (rd_build rfl pl_30 ze_30 rfl rfl) ?_
  refine AL.r (rd_build rfl pl_27 ze_27 rfl rfl) ?_
  refine AL.op rfl (AOpB.op (bs_set rfl ap_28 ze_9 rfl rfl ?_))
  refine AL.n ?_
  refine AL.r (rd_build rfl pl_30 ze_30 rfl rfl) ?_
  refine AL.r (rd_build rfl pl_27 ze_27 rfl rfl) ?_
  refine AL.r (rd_build rfl pl_30 ze_30 rfl rfl) ?_
  refine AL.op rfl (AOpB.op (bs_set rfl ap_23 ze_30 rfl rfl ?_))
  refine AL.n ?_
  refine AL.r (rd_assign rfl rfl) ?_
  refine AL.nil ?_
  change AW _ _ _ _ _
  refine AW.ret ?_
  change ResA _ _ _ _ _
  refine res1 rfl (ResV.tmp rfl) rfl ?_
  rfl
theorem awake14 : AC Try.prog 11 [] (fun x => x = .s (AB true)) := by
  refine AC.of (t0 := [AV.sc undef, AV.sc undef, AV.sc undef, AV.sc undef, AV.sc undef, AV.sc undef, AV.sc undef, AV.sc undef, AV.sc undef, AV.sc undef, AV.sc undef, AV.sc undef, AV.sc undef, AV.sc undef, AV.sc undef, AV.sc undef, AV.sc undef, AV.sc undef]) 0 Try.func11 rfl rfl ?_
  change AW _ _ _ _ []
  refine AW.seq ?_
  refine AW.region ?_
  refine AL.r (rd_assign rfl rfl) ?_
  refine AL.nil ?_
  change AW _ _ _ _ _
  refine AW.seq ?_
  refine AW.region ?_
  refine AL.op rfl (AOpB.op (op_call (root_c) rfl (by kernel_rfl) rfl (none) ?_))
  rintro r rfl
  refine AL.n ?_
  refine AL.r (rd_assign rfl rfl) ?_
  refine AL.nil ?_
  change AW _ _ _ _ _
  refine AW.seq ?_
  refine AW.region ?_
  refine AL.r (rd_move rfl rfl) ?_
  refine AL.r (rd_len_sl rfl el_23 rfl) ?_
  refine AL.r (rd_bin rfl rfl rfl (fun _ => rfl)) ?_
  refine AL.r (rd_move rfl rfl) ?_
  refine AL.fork (d := 6) rfl (fun h6 => ?_) (fun h6 => ?_)
  · (try simp only [decide_eq_true_eq, decide_eq_false_iff_not, beq_iff_eq, beq_eq_false_iff_ne, bne_iff_ne, bne_eq_false_iff_eq, Bool.not_eq_true', Bool.not_eq_false', ne_eq, Bool.not_eq_eq_eq_not, Bool.not_true, Bool.not_false, gt_iff_lt, ge_iff_le, Bool.not_not] at h6)
    refine AL.n ?_
    refine AL.ro (rd_move rfl rfl) ?_
    refine AL.ro (rd_iaddr_sl rfl el_23 rfl rfl (n := 0) rfl (get_mapA (by decide)) rfl) ?_
    refine AL.ro (rd_faddr_ep rfl fo_30_0 rfl) ?_
    refine AL.ro (rd_loadN_ep rfl ag_27 rfl (Nat.le_of_ble_eq_true rfl) rfl) ?_
    refine AL.ro (rd_build rfl pl_27 ze_27 rfl rfl) ?_
    refine AL.ro (rd_eq_Ref rfl rfl rfl) ?_
    refine AL.r (rd_pick_t rfl rfl rfl) ?_
    refine AL.r (rd_move rfl rfl) ?_
    refine AL.fork (d := 14) rfl (fun h14 => ?_) (fun h14 => ?_)
    · (try simp only [decide_eq_true_eq, decide_eq_false_iff_not, beq_iff_eq, beq_eq_false_iff_ne, bne_iff_ne, bne_eq_false_iff_eq, Bool.not_eq_true', Bool.not_eq_false', ne_eq, Bool.not_eq_eq_eq_not, Bool.not_true, Bool.not_false, gt_iff_lt, ge_iff_le, Bool.not_not] at h14)
      refine AL.n ?_
      refine AL.ro (rd_move rfl rfl) ?_
      refine AL.on rfl rfl rfl (AOpB.op (op_call (sright_c rootD) rfl (by kernel_rfl) rfl (none) ?_))
      rintro r rfl
      refine AL.n ?_
      refine AL.r (rd_pick_t rfl rfl rfl) ?_
      refine AL.r (rd_assign rfl rfl) ?_
      refine AL.nil ?_
      change AW _ _ _ _ _
      refine AW.ret ?_
      change ResA _ _ _ _ _
      refine res1 rfl (ResV.tmp rfl) rfl ?_
      rw [root_right]
    · (try simp only [decide_eq_true_eq, decide_eq_false_iff_not, beq_iff_eq, beq_eq_false_iff_ne, bne_iff_ne, bne_eq_false_iff_eq, Bool.not_eq_true', Bool.not_eq_false', ne_eq, Bool.not_eq_eq_eq_not, Bool.not_true, Bool.not_false, gt_iff_lt, ge_iff_le, Bool.not_not] at h14)
      exact absurd (by decide) h14
  · (try simp only [decide_eq_true_eq, decide_eq_false_iff_not, beq_iff_eq, beq_eq_false_iff_ne, bne_iff_ne, bne_eq_false_iff_eq, Bool.not_eq_true', Bool.not_eq_false', ne_eq, Bool.not_eq_eq_eq_not, Bool.not_true, Bool.not_false, gt_iff_lt, ge_iff_le, Bool.not_not] at h6)
    exact absurd (by decide : (rootD.length : Int) = 5) h6
theorem smallS.filter {l : List FldD} (h : smallS l) (p : FldD → Bool) : smallS (l.filter p) :=
  ⟨Nat.le_trans (List.length_filter_le p l) h.1, fun f hf => h.2 f (List.mem_filter.1 hf).1⟩
theorem rsame14s (l m : List FldD) (h : smallS l) : AC Try.prog 14 [.sl (l.map FldD.cs), .sl (m.map FldD.cs)] (fun x => x = .s (AB (decide (l = m)))) := rsame14_c l m (by have := h.1; omega) (fun f hf => by have := h.2 f hf; omega)
theorem finds_c (l m : List FldD) (r : RefD) (n : Int) : AC Try.prog 5 [.sl (l.map FldD.cs), .sl (m.map FldD.cs), r.av, AI n] (fun x => x = .s (AB true)) := by
  cases hf : l.findIdx? (fun f => decide (f.at_ = r)) with
  | none =>
    have h2 : idxS l r = -1 := by unfold idxS; rw [hf]
    have h3 : l.find? (fun f => decide (f.at_ = r)) = none := by
      rw [List.find?_eq_none]
      have := List.findIdx?_eq_none_iff.1 hf
      intro x hx
      have := this x hx
      simpa using this
    have h4 : findS l r = (⟨⟨0, [], []⟩, 0, [], [], 0⟩, 6) := by unfold findS; rw [h3]
    refine AC.of (t0 := [.sl (l.map FldD.cs), .sl (m.map FldD.cs), r.av, AI n, AV.sc undef, AV.sc undef, AV.sc undef, AV.sc undef, AV.sc undef, AV.sc undef, AV.sc undef, AV.sc undef, AV.sc undef, AV.sc undef, AV.sc undef, AV.sc undef, AV.sc undef, AV.sc undef, AV.sc undef, AV.sc undef, AV.sc undef, AV.sc undef, AV.sc undef, AV.sc undef, AV.sc undef, AV.sc undef, AV.sc undef, AV.sc undef, AV.sc undef, AV.sc undef, AV.sc undef, AV.sc undef, AV.sc undef, AV.sc undef, AV.sc undef, AV.sc undef, AV.sc undef, AV.sc undef, AV.sc undef, AV.sc undef, AV.sc undef, AV.sc undef, AV.sc undef, AV.sc undef, AV.sc undef, AV.sc undef, AV.sc undef, AV.sc undef, AV.sc undef, AV.sc undef, AV.sc undef, AV.sc undef, AV.sc undef, AV.sc undef, AV.sc undef, AV.sc undef, AV.sc undef, AV.sc undef, AV.sc undef, AV.sc undef, AV.sc undef, AV.sc undef, AV.sc undef, AV.sc undef, AV.sc undef, AV.sc undef, AV.sc undef, AV.sc undef, AV.sc undef, AV.sc undef, AV.sc undef, AV.sc undef, AV.sc undef, AV.sc undef, AV.sc undef, AV.sc undef, AV.sc undef, AV.sc undef, AV.sc undef, AV.sc undef, AV.sc undef, AV.sc undef, AV.sc undef, AV.sc undef, AV.sc undef, AV.sc undef, AV.sc undef]) 2 Try.func5 rfl rfl ?_
    change AW _ _ _ _ [TK.mk 0 .off, TK.mk 0 .off]
    refine AW.seq ?_
    refine AW.region ?_
    refine AL.op rfl (AOpB.op (op_box 0 rfl rfl rfl rfl rfl ?_))
    refine AL.n ?_
    refine AL.r (rd_assign rfl rfl) ?_
    refine AL.nil ?_
    change AW _ _ _ _ _
    refine AW.seq ?_
    refine AW.seq ?_
    refine AW.region ?_
    refine AL.op rfl (AOpB.op (op_call (awake14) rfl (by kernel_rfl) rfl (none) ?_))
    rintro r rfl
    refine AL.n ?_
    refine AL.r (rd_un rfl rfl (fun _ => rfl)) ?_
    refine AL.nil ?_
    change AW _ _ _ _ _
    refine AW.cond rfl (fun h13 => ?_) (fun h13 => ?_)
    · (try simp only [decide_eq_true_eq, decide_eq_false_iff_not, beq_iff_eq, beq_eq_false_iff_ne, bne_iff_ne, bne_eq_false_iff_eq, Bool.not_eq_true', Bool.not_eq_false', ne_eq, Bool.not_eq_eq_eq_not, Bool.not_true, Bool.not_false, gt_iff_lt, ge_iff_le, Bool.not_not] at h13)
      refine AW.seq ?_
      cases h13
    · (try simp only [decide_eq_true_eq, decide_eq_false_iff_not, beq_iff_eq, beq_eq_false_iff_ne, bne_iff_ne, bne_eq_false_iff_eq, Bool.not_eq_true', Bool.not_eq_false', ne_eq, Bool.not_eq_eq_eq_not, Bool.not_true, Bool.not_false, gt_iff_lt, ge_iff_le, Bool.not_not] at h13)
      refine AW.skip ?_
      change AW _ _ _ _ _
      refine AW.seq ?_
      refine AW.seq ?_
      refine AW.region ?_
      refine AL.r (rd_move rfl rfl) ?_
      refine AL.op rfl (AOpB.op (op_call (rheavy14 _) rfl (by kernel_rfl) rfl (none) ?_))
      rintro r rfl
      refine AL.n ?_
      refine AL.r (rd_move rfl rfl) ?_
      refine AL.fork (d := 16) rfl (fun h16 => ?_) (fun h16 => ?_)
      · (try simp only [decide_eq_true_eq, decide_eq_false_iff_not, beq_iff_eq, beq_eq_false_iff_ne, bne_iff_ne, bne_eq_false_iff_eq, Bool.not_eq_true', Bool.not_eq_false', ne_eq, Bool.not_eq_eq_eq_not, Bool.not_true, Bool.not_false, gt_iff_lt, ge_iff_le, Bool.not_not] at h16)
        refine AL.n ?_
        refine AL.rf ?_
        refine AL.rf ?_
        refine AL.r (rd_pick_t rfl rfl rfl) ?_
        refine AL.nil ?_
        change AW _ _ _ _ _
        refine AW.cond_t rfl ?_
        refine AW.seq ?_
        refine AW.region ?_
        refine AL.r (rd_assign rfl rfl) ?_
        refine AL.nil ?_
        change AW _ _ _ _ _
        refine AW.ret ?_
        change ResA _ _ _ _ _
        refine res1 rfl (ResV.tmp rfl) rfl ?_
        first | rfl | simp
      · (try simp only [decide_eq_true_eq, decide_eq_false_iff_not, beq_iff_eq, beq_eq_false_iff_ne, bne_iff_ne, bne_eq_false_iff_eq, Bool.not_eq_true', Bool.not_eq_false', ne_eq, Bool.not_eq_eq_eq_not, Bool.not_true, Bool.not_false, gt_iff_lt, ge_iff_le, Bool.not_not] at h16)
        refine AL.n ?_
        refine AL.ro (rd_move rfl rfl) ?_
        refine AL.on rfl rfl rfl (AOpB.op (op_call (rheavy14 _) rfl (by kernel_rfl) rfl (none) ?_))
        rintro r rfl
        refine AL.n ?_
        refine AL.r (rd_pick_f rfl rfl rfl) ?_
        refine AL.nil ?_
        change AW _ _ _ _ _
        refine AW.cond rfl (fun h19 => ?_) (fun h19 => ?_)
        · (try simp only [decide_eq_true_eq, decide_eq_false_iff_not, beq_iff_eq, beq_eq_false_iff_ne, bne_iff_ne, bne_eq_false_iff_eq, Bool.not_eq_true', Bool.not_eq_false', ne_eq, Bool.not_eq_eq_eq_not, Bool.not_true, Bool.not_false, gt_iff_lt, ge_iff_le, Bool.not_not] at h19)
          refine AW.seq ?_
          refine AW.region ?_
          refine AL.r (rd_assign rfl rfl) ?_
          refine AL.nil ?_
          change AW _ _ _ _ _
          refine AW.ret ?_
          change ResA _ _ _ _ _
          refine res1 rfl (ResV.tmp rfl) rfl ?_
          first | rfl | simp
        · (try simp only [decide_eq_true_eq, decide_eq_false_iff_not, beq_iff_eq, beq_eq_false_iff_ne, bne_iff_ne, bne_eq_false_iff_eq, Bool.not_eq_true', Bool.not_eq_false', ne_eq, Bool.not_eq_eq_eq_not, Bool.not_true, Bool.not_false, gt_iff_lt, ge_iff_le, Bool.not_not] at h19)
          refine AW.skip ?_
          change AW _ _ _ _ _
          refine AW.seq ?_
          refine AW.region ?_
          refine AL.r (rd_move rfl rfl) ?_
          refine AL.r (rd_loadN_bx rfl ag_27 rfl rfl (Nat.le_of_ble_eq_true rfl) rfl) ?_
          refine AL.op rfl (AOpB.op (op_call (sfind_c l r (heavyS_small h16)) rfl (by kernel_rfl) rfl (none) ?_))
          rintro r rfl
          refine AL.n ?_
          rw [h4]
          refine AL.r (rd_move rfl rfl) ?_
          refine AL.r (rd_extract rfl rfl rfl) ?_
          refine AL.r (rd_extract rfl rfl rfl) ?_
          refine AL.op rfl (AOpB.op (op_alloc 1 rfl ze_30 rfl ?_))
          refine AL.n ?_
          refine AL.op rfl (op_store rfl rfl rfl rfl rfl rfl sz_30 (Nat.le_of_ble_eq_true rfl) ?_)
          refine AL.n ?_
          refine AL.r (rd_assign rfl rfl) ?_
          refine AL.nil ?_
          change AW _ _ _ _ _
          refine AW.seq ?_
          refine AW.region ?_
          refine AL.r (rd_move rfl rfl) ?_
          refine AL.r (rd_loadN_bx rfl ag_27 rfl rfl (Nat.le_of_ble_eq_true rfl) rfl) ?_
          refine AL.op rfl (AOpB.op (op_call (rat_c l r (by have := (heavyS_small h16).1; omega)) rfl (by kernel_rfl) rfl (none) ?_))
          rintro r rfl
          refine AL.n ?_
          rw [h2]
          refine AL.r (rd_assign rfl rfl) ?_
          refine AL.nil ?_
          change AW _ _ _ _ _
          refine AW.seq ?_
          refine AW.seq ?_
          refine AW.draw (by kernel_rfl) ?_
          refine AD.r 0 rfl (rd_move rfl rfl) rfl ?_
          refine AD.r 1 rfl (rd_bin rfl rfl rfl (fun _ => rfl)) rfl ?_
          refine AD.r 2 rfl (rd_move rfl rfl) rfl ?_
          refine AD.fork (d := 31) rfl (fun h31 => ?_) (fun h31 => ?_)
          · (try simp only [decide_eq_true_eq, decide_eq_false_iff_not, beq_iff_eq, beq_eq_false_iff_ne, bne_iff_ne, bne_eq_false_iff_eq, Bool.not_eq_true', Bool.not_eq_false', ne_eq, Bool.not_eq_eq_eq_not, Bool.not_true, Bool.not_false, gt_iff_lt, ge_iff_le, Bool.not_not] at h31)
            refine AD.n ?_
            refine AD.r 3 rfl (rd_move rfl rfl) ⟨_, _, rfl, rfl, rfl⟩ ?_
            refine AD.r 4 rfl (rd_bin rfl rfl rfl (fun _ => rfl)) ⟨_, _, rfl, rfl, rfl⟩ ?_
            refine AD.r 5 rfl (rd_move rfl rfl) ⟨_, _, rfl, rfl, rfl⟩ ?_
            refine AD.fork (d := 34) rfl (fun h34 => ?_) (fun h34 => ?_)
            · (try simp only [decide_eq_true_eq, decide_eq_false_iff_not, beq_iff_eq, beq_eq_false_iff_ne, bne_iff_ne, bne_eq_false_iff_eq, Bool.not_eq_true', Bool.not_eq_false', ne_eq, Bool.not_eq_eq_eq_not, Bool.not_true, Bool.not_false, gt_iff_lt, ge_iff_le, Bool.not_not] at h34)
              exact absurd trivial h34
            · (try simp only [decide_eq_true_eq, decide_eq_false_iff_not, beq_iff_eq, beq_eq_false_iff_ne, bne_iff_ne, bne_eq_false_iff_eq, Bool.not_eq_true', Bool.not_eq_false', ne_eq, Bool.not_eq_eq_eq_not, Bool.not_true, Bool.not_false, gt_iff_lt, ge_iff_le, Bool.not_not] at h34)
              refine AD.n ?_
              refine AD.r 6 rfl (rd_loadN_bx rfl ag_30 rfl rfl (Nat.le_of_ble_eq_true rfl) rfl) ⟨_, _, rfl, rfl, rfl⟩ ?_
              refine AD.r 7 rfl (rd_build rfl pl_30 ze_30 rfl rfl) ⟨_, _, rfl, rfl, rfl⟩ ?_
              refine AD.move 8 rfl (by kernel_rfl) ⟨_, _, rfl, rfl, rfl⟩ (op_call (rsame_c ⟨⟨0, [], []⟩, 0, [], [], 0⟩ ⟨⟨0, [], []⟩, 0, [], [], 0⟩ (by decide)) rfl (by kernel_rfl) rfl (none) ?_)
              rintro r rfl
              refine AD.n ?_
              refine AD.r 9 rfl (rd_un rfl rfl (fun _ => rfl)) ⟨_, _, rfl, rfl, rfl⟩ ?_
              refine AD.r 10 rfl (rd_pick_f rfl rfl rfl) ⟨_, _, rfl, rfl, rfl⟩ ?_
              refine AD.r 11 rfl (rd_pick_t rfl rfl rfl) rfl ?_
              refine AD.r 12 rfl (rd_move rfl rfl) rfl ?_
              refine AD.fork (d := 41) rfl (fun h41 => ?_) (fun h41 => ?_)
              · (try simp only [decide_eq_true_eq, decide_eq_false_iff_not, beq_iff_eq, beq_eq_false_iff_ne, bne_iff_ne, bne_eq_false_iff_eq, Bool.not_eq_true', Bool.not_eq_false', ne_eq, Bool.not_eq_eq_eq_not, Bool.not_true, Bool.not_false, gt_iff_lt, ge_iff_le, Bool.not_not] at h41)
                simp at h41
              · (try simp only [decide_eq_true_eq, decide_eq_false_iff_not, beq_iff_eq, beq_eq_false_iff_ne, bne_iff_ne, bne_eq_false_iff_eq, Bool.not_eq_true', Bool.not_eq_false', ne_eq, Bool.not_eq_eq_eq_not, Bool.not_true, Bool.not_false, gt_iff_lt, ge_iff_le, Bool.not_not] at h41)
                refine AD.n ?_
                refine AD.r 13 rfl (rd_move rfl rfl) ⟨_, _, rfl, rfl, rfl⟩ ?_
                refine AD.r 14 rfl (rd_bin rfl rfl rfl (fun _ => rfl)) ⟨_, _, rfl, rfl, rfl⟩ ?_
                refine AD.r 15 rfl (rd_move rfl rfl) ⟨_, _, rfl, rfl, rfl⟩ ?_
                refine AD.fork (d := 44) rfl (fun h44 => ?_) (fun h44 => ?_)
                · (try simp only [decide_eq_true_eq, decide_eq_false_iff_not, beq_iff_eq, beq_eq_false_iff_ne, bne_iff_ne, bne_eq_false_iff_eq, Bool.not_eq_true', Bool.not_eq_false', ne_eq, Bool.not_eq_eq_eq_not, Bool.not_true, Bool.not_false, gt_iff_lt, ge_iff_le, Bool.not_not] at h44)
                  exfalso; omega
                · (try simp only [decide_eq_true_eq, decide_eq_false_iff_not, beq_iff_eq, beq_eq_false_iff_ne, bne_iff_ne, bne_eq_false_iff_eq, Bool.not_eq_true', Bool.not_eq_false', ne_eq, Bool.not_eq_eq_eq_not, Bool.not_true, Bool.not_false, gt_iff_lt, ge_iff_le, Bool.not_not] at h44)
                  refine AD.n ?_
                  refine AD.s 16 rfl ⟨_, _, rfl, rfl, rfl⟩ ?_
                  refine AD.s 17 rfl ⟨_, _, rfl, rfl, rfl⟩ ?_
                  refine AD.s 18 rfl ⟨_, _, rfl, rfl, rfl⟩ ?_
                  refine AD.s 19 rfl ⟨_, _, rfl, rfl, rfl⟩ ?_
                  refine AD.s 20 rfl ⟨_, _, rfl, rfl, rfl⟩ ?_
                  refine AD.s 21 rfl ⟨_, _, rfl, rfl, rfl⟩ ?_
                  refine AD.s 22 rfl ⟨_, _, rfl, rfl, rfl⟩ ?_
                  refine AD.s 23 rfl ⟨_, _, rfl, rfl, rfl⟩ ?_
                  refine AD.s 24 rfl ⟨_, _, rfl, rfl, rfl⟩ ?_
                  refine AD.s 25 rfl ⟨_, _, rfl, rfl, rfl⟩ ?_
                  refine AD.s 26 rfl ⟨_, _, rfl, rfl, rfl⟩ ?_
                  refine AD.r 27 rfl (rd_pick_f rfl rfl rfl) ⟨_, _, rfl, rfl, rfl⟩ ?_
                  refine AD.r 28 rfl (rd_pick_f rfl rfl rfl) rfl ?_
                  refine AD.done (by kernel_rfl) ?_
                  change AW _ _ _ _ _
                  refine AW.cond_f rfl ?_
                  refine AW.skip ?_
                  change AW _ _ _ _ _
                  refine AW.seq ?_
                  refine AW.region ?_
                  refine AL.r (rd_move rfl rfl) ?_
                  refine AL.op rfl (AOpB.op (op_call (sright_c l) rfl (by kernel_rfl) rfl (none) ?_))
                  rintro r rfl
                  refine AL.n ?_
                  refine AL.r (rd_move rfl rfl) ?_
                  refine AL.op rfl (AOpB.op (op_call (rright14 l (heavyS_small h16)) rfl (by kernel_rfl) rfl (none) ?_))
                  rintro r rfl
                  refine AL.n ?_
                  refine AL.r (rd_beql rfl bo_4 rfl rfl) ?_
                  refine AL.r (rd_move rfl rfl) ?_
                  refine AL.fork (d := 63) rfl (fun h63 => ?_) (fun h63 => ?_)
                  · (try simp only [decide_eq_true_eq, decide_eq_false_iff_not, beq_iff_eq, beq_eq_false_iff_ne, bne_iff_ne, bne_eq_false_iff_eq, Bool.not_eq_true', Bool.not_eq_false', ne_eq, Bool.not_eq_eq_eq_not, Bool.not_true, Bool.not_false, gt_iff_lt, ge_iff_le, Bool.not_not] at h63)
                    refine AL.n ?_
                    refine AL.ro (rd_move rfl rfl) ?_
                    refine AL.ro (rd_move rfl rfl) ?_
                    refine AL.on rfl rfl rfl (AOpB.op (op_call (ssame_c l m (by have := (heavyS_small h16).1; omega)) rfl (by kernel_rfl) rfl (none) ?_))
                    rintro r rfl
                    refine AL.n ?_
                    refine AL.ro (rd_move rfl rfl) ?_
                    refine AL.ro (rd_move rfl rfl) ?_
                    refine AL.on rfl rfl rfl (AOpB.op (op_call (rsame14s l m (heavyS_small h16)) rfl (by kernel_rfl) rfl (none) ?_))
                    rintro r rfl
                    refine AL.n ?_
                    refine AL.ro (rd_beql rfl bo_4 rfl rfl) ?_
                    refine AL.r (rd_pick_t rfl rfl rfl) ?_
                    refine AL.r (rd_move rfl rfl) ?_
                    refine AL.fork (d := 72) rfl (fun h72 => ?_) (fun h72 => ?_)
                    · (try simp only [decide_eq_true_eq, decide_eq_false_iff_not, beq_iff_eq, beq_eq_false_iff_ne, bne_iff_ne, bne_eq_false_iff_eq, Bool.not_eq_true', Bool.not_eq_false', ne_eq, Bool.not_eq_eq_eq_not, Bool.not_true, Bool.not_false, gt_iff_lt, ge_iff_le, Bool.not_not] at h72)
                      refine AL.n ?_
                      refine AL.ro (rd_move rfl rfl) ?_
                      refine AL.ro (rd_move rfl rfl) ?_
                      refine AL.on rfl rfl rfl (AOpB.op (op_call (sown_c l (heavyS_small h16)) rfl (by kernel_rfl) rfl (none) ?_))
                      rintro r rfl
                      refine AL.n ?_
                      refine AL.on rfl rfl rfl (AOpB.op (op_call (ssame_c l l (by have := (heavyS_small h16).1; omega)) rfl (by kernel_rfl) rfl (none) ?_))
                      rintro r rfl
                      refine AL.n ?_
                      refine AL.r (rd_pick_t rfl rfl rfl) ?_
                      refine AL.r (rd_move rfl rfl) ?_
                      refine AL.fork (d := 78) rfl (fun h78 => ?_) (fun h78 => ?_)
                      · (try simp only [decide_eq_true_eq, decide_eq_false_iff_not, beq_iff_eq, beq_eq_false_iff_ne, bne_iff_ne, bne_eq_false_iff_eq, Bool.not_eq_true', Bool.not_eq_false', ne_eq, Bool.not_eq_eq_eq_not, Bool.not_true, Bool.not_false, gt_iff_lt, ge_iff_le, Bool.not_not] at h78)
                        refine AL.n ?_
                        refine AL.ro (rd_move rfl rfl) ?_
                        refine AL.ro (rd_move rfl rfl) ?_
                        refine AL.on rfl rfl rfl (AOpB.op (op_call (sscope_c l n (heavyS_small h16)) rfl (by kernel_rfl) rfl (none) ?_))
                        rintro r rfl
                        refine AL.n ?_
                        refine AL.ro (rd_move rfl rfl) ?_
                        refine AL.ro (rd_move rfl rfl) ?_
                        refine AL.on rfl rfl rfl (AOpB.op (op_call (rscope14 l n (heavyS_small h16)) rfl (by kernel_rfl) rfl (none) ?_))
                        rintro r rfl
                        refine AL.n ?_
                        refine AL.on rfl rfl rfl (AOpB.op (op_call (rsame14s _ _ ((heavyS_small h16).filter _)) rfl (by kernel_rfl) rfl (none) ?_))
                        rintro r rfl
                        refine AL.n ?_
                        refine AL.r (rd_pick_t rfl rfl rfl) ?_
                        refine AL.r (rd_assign rfl rfl) ?_
                        refine AL.nil ?_
                        change AW _ _ _ _ _
                        refine AW.ret ?_
                        change ResA _ _ _ _ _
                        refine res1 rfl (ResV.tmp rfl) rfl ?_
                        first | rfl | simp
                      · (try simp only [decide_eq_true_eq, decide_eq_false_iff_not, beq_iff_eq, beq_eq_false_iff_ne, bne_iff_ne, bne_eq_false_iff_eq, Bool.not_eq_true', Bool.not_eq_false', ne_eq, Bool.not_eq_eq_eq_not, Bool.not_true, Bool.not_false, gt_iff_lt, ge_iff_le, Bool.not_not] at h78)
                        exact absurd trivial h78
                    · (try simp only [decide_eq_true_eq, decide_eq_false_iff_not, beq_iff_eq, beq_eq_false_iff_ne, bne_iff_ne, bne_eq_false_iff_eq, Bool.not_eq_true', Bool.not_eq_false', ne_eq, Bool.not_eq_eq_eq_not, Bool.not_true, Bool.not_false, gt_iff_lt, ge_iff_le, Bool.not_not] at h72)
                      exact absurd trivial h72
                  · (try simp only [decide_eq_true_eq, decide_eq_false_iff_not, beq_iff_eq, beq_eq_false_iff_ne, bne_iff_ne, bne_eq_false_iff_eq, Bool.not_eq_true', Bool.not_eq_false', ne_eq, Bool.not_eq_eq_eq_not, Bool.not_true, Bool.not_false, gt_iff_lt, ge_iff_le, Bool.not_not] at h63)
                    exact absurd trivial h63
          · (try simp only [decide_eq_true_eq, decide_eq_false_iff_not, beq_iff_eq, beq_eq_false_iff_ne, bne_iff_ne, bne_eq_false_iff_eq, Bool.not_eq_true', Bool.not_eq_false', ne_eq, Bool.not_eq_eq_eq_not, Bool.not_true, Bool.not_false, gt_iff_lt, ge_iff_le, Bool.not_not] at h31)
            exfalso; omega
  | some i =>
    obtain ⟨hi, h3⟩ := idxS_some hf
    have h2 : idxS l r = (i : Int) := by unfold idxS; rw [hf]
    have h4 : findS l r = (l[i], 0) := by unfold findS; rw [h3]
    refine AC.of (t0 := [.sl (l.map FldD.cs), .sl (m.map FldD.cs), r.av, AI n, AV.sc undef, AV.sc undef, AV.sc undef, AV.sc undef, AV.sc undef, AV.sc undef, AV.sc undef, AV.sc undef, AV.sc undef, AV.sc undef, AV.sc undef, AV.sc undef, AV.sc undef, AV.sc undef, AV.sc undef, AV.sc undef, AV.sc undef, AV.sc undef, AV.sc undef, AV.sc undef, AV.sc undef, AV.sc undef, AV.sc undef, AV.sc undef, AV.sc undef, AV.sc undef, AV.sc undef, AV.sc undef, AV.sc undef, AV.sc undef, AV.sc undef, AV.sc undef, AV.sc undef, AV.sc undef, AV.sc undef, AV.sc undef, AV.sc undef, AV.sc undef, AV.sc undef, AV.sc undef, AV.sc undef, AV.sc undef, AV.sc undef, AV.sc undef, AV.sc undef, AV.sc undef, AV.sc undef, AV.sc undef, AV.sc undef, AV.sc undef, AV.sc undef, AV.sc undef, AV.sc undef, AV.sc undef, AV.sc undef, AV.sc undef, AV.sc undef, AV.sc undef, AV.sc undef, AV.sc undef, AV.sc undef, AV.sc undef, AV.sc undef, AV.sc undef, AV.sc undef, AV.sc undef, AV.sc undef, AV.sc undef, AV.sc undef, AV.sc undef, AV.sc undef, AV.sc undef, AV.sc undef, AV.sc undef, AV.sc undef, AV.sc undef, AV.sc undef, AV.sc undef, AV.sc undef, AV.sc undef, AV.sc undef, AV.sc undef, AV.sc undef]) 2 Try.func5 rfl rfl ?_
    change AW _ _ _ _ [TK.mk 0 .off, TK.mk 0 .off]
    refine AW.seq ?_
    refine AW.region ?_
    refine AL.op rfl (AOpB.op (op_box 0 rfl rfl rfl rfl rfl ?_))
    refine AL.n ?_
    refine AL.r (rd_assign rfl rfl) ?_
    refine AL.nil ?_
    change AW _ _ _ _ _
    refine AW.seq ?_
    refine AW.seq ?_
    refine AW.region ?_
    refine AL.op rfl (AOpB.op (op_call (awake14) rfl (by kernel_rfl) rfl (none) ?_))
    rintro r rfl
    refine AL.n ?_
    refine AL.r (rd_un rfl rfl (fun _ => rfl)) ?_
    refine AL.nil ?_
    change AW _ _ _ _ _
    refine AW.cond rfl (fun h13 => ?_) (fun h13 => ?_)
    · (try simp only [decide_eq_true_eq, decide_eq_false_iff_not, beq_iff_eq, beq_eq_false_iff_ne, bne_iff_ne, bne_eq_false_iff_eq, Bool.not_eq_true', Bool.not_eq_false', ne_eq, Bool.not_eq_eq_eq_not, Bool.not_true, Bool.not_false, gt_iff_lt, ge_iff_le, Bool.not_not] at h13)
      refine AW.seq ?_
      cases h13
    · (try simp only [decide_eq_true_eq, decide_eq_false_iff_not, beq_iff_eq, beq_eq_false_iff_ne, bne_iff_ne, bne_eq_false_iff_eq, Bool.not_eq_true', Bool.not_eq_false', ne_eq, Bool.not_eq_eq_eq_not, Bool.not_true, Bool.not_false, gt_iff_lt, ge_iff_le, Bool.not_not] at h13)
      refine AW.skip ?_
      change AW _ _ _ _ _
      refine AW.seq ?_
      refine AW.seq ?_
      refine AW.region ?_
      refine AL.r (rd_move rfl rfl) ?_
      refine AL.op rfl (AOpB.op (op_call (rheavy14 _) rfl (by kernel_rfl) rfl (none) ?_))
      rintro r rfl
      refine AL.n ?_
      refine AL.r (rd_move rfl rfl) ?_
      refine AL.fork (d := 16) rfl (fun h16 => ?_) (fun h16 => ?_)
      · (try simp only [decide_eq_true_eq, decide_eq_false_iff_not, beq_iff_eq, beq_eq_false_iff_ne, bne_iff_ne, bne_eq_false_iff_eq, Bool.not_eq_true', Bool.not_eq_false', ne_eq, Bool.not_eq_eq_eq_not, Bool.not_true, Bool.not_false, gt_iff_lt, ge_iff_le, Bool.not_not] at h16)
        refine AL.n ?_
        refine AL.rf ?_
        refine AL.rf ?_
        refine AL.r (rd_pick_t rfl rfl rfl) ?_
        refine AL.nil ?_
        change AW _ _ _ _ _
        refine AW.cond_t rfl ?_
        refine AW.seq ?_
        refine AW.region ?_
        refine AL.r (rd_assign rfl rfl) ?_
        refine AL.nil ?_
        change AW _ _ _ _ _
        refine AW.ret ?_
        change ResA _ _ _ _ _
        refine res1 rfl (ResV.tmp rfl) rfl ?_
        first | rfl | simp
      · (try simp only [decide_eq_true_eq, decide_eq_false_iff_not, beq_iff_eq, beq_eq_false_iff_ne, bne_iff_ne, bne_eq_false_iff_eq, Bool.not_eq_true', Bool.not_eq_false', ne_eq, Bool.not_eq_eq_eq_not, Bool.not_true, Bool.not_false, gt_iff_lt, ge_iff_le, Bool.not_not] at h16)
        refine AL.n ?_
        refine AL.ro (rd_move rfl rfl) ?_
        refine AL.on rfl rfl rfl (AOpB.op (op_call (rheavy14 _) rfl (by kernel_rfl) rfl (none) ?_))
        rintro r rfl
        refine AL.n ?_
        refine AL.r (rd_pick_f rfl rfl rfl) ?_
        refine AL.nil ?_
        change AW _ _ _ _ _
        refine AW.cond rfl (fun h19 => ?_) (fun h19 => ?_)
        · (try simp only [decide_eq_true_eq, decide_eq_false_iff_not, beq_iff_eq, beq_eq_false_iff_ne, bne_iff_ne, bne_eq_false_iff_eq, Bool.not_eq_true', Bool.not_eq_false', ne_eq, Bool.not_eq_eq_eq_not, Bool.not_true, Bool.not_false, gt_iff_lt, ge_iff_le, Bool.not_not] at h19)
          refine AW.seq ?_
          refine AW.region ?_
          refine AL.r (rd_assign rfl rfl) ?_
          refine AL.nil ?_
          change AW _ _ _ _ _
          refine AW.ret ?_
          change ResA _ _ _ _ _
          refine res1 rfl (ResV.tmp rfl) rfl ?_
          first | rfl | simp
        · (try simp only [decide_eq_true_eq, decide_eq_false_iff_not, beq_iff_eq, beq_eq_false_iff_ne, bne_iff_ne, bne_eq_false_iff_eq, Bool.not_eq_true', Bool.not_eq_false', ne_eq, Bool.not_eq_eq_eq_not, Bool.not_true, Bool.not_false, gt_iff_lt, ge_iff_le, Bool.not_not] at h19)
          refine AW.skip ?_
          change AW _ _ _ _ _
          refine AW.seq ?_
          refine AW.region ?_
          refine AL.r (rd_move rfl rfl) ?_
          refine AL.r (rd_loadN_bx rfl ag_27 rfl rfl (Nat.le_of_ble_eq_true rfl) rfl) ?_
          refine AL.op rfl (AOpB.op (op_call (sfind_c l r (heavyS_small h16)) rfl (by kernel_rfl) rfl (none) ?_))
          rintro r rfl
          refine AL.n ?_
          rw [h4]
          refine AL.r (rd_move rfl rfl) ?_
          refine AL.r (rd_extract rfl rfl rfl) ?_
          refine AL.r (rd_extract rfl rfl rfl) ?_
          refine AL.op rfl (AOpB.op (op_alloc 1 rfl ze_30 rfl ?_))
          refine AL.n ?_
          refine AL.op rfl (op_store rfl rfl rfl rfl rfl rfl sz_30 (Nat.le_of_ble_eq_true rfl) ?_)
          refine AL.n ?_
          refine AL.r (rd_assign rfl rfl) ?_
          refine AL.nil ?_
          change AW _ _ _ _ _
          refine AW.seq ?_
          refine AW.region ?_
          refine AL.r (rd_move rfl rfl) ?_
          refine AL.r (rd_loadN_bx rfl ag_27 rfl rfl (Nat.le_of_ble_eq_true rfl) rfl) ?_
          refine AL.op rfl (AOpB.op (op_call (rat_c l r (by have := (heavyS_small h16).1; omega)) rfl (by kernel_rfl) rfl (none) ?_))
          rintro r rfl
          refine AL.n ?_
          rw [h2]
          refine AL.r (rd_assign rfl rfl) ?_
          refine AL.nil ?_
          change AW _ _ _ _ _
          refine AW.seq ?_
          refine AW.seq ?_
          refine AW.draw (by kernel_rfl) ?_
          refine AD.r 0 rfl (rd_move rfl rfl) rfl ?_
          refine AD.r 1 rfl (rd_bin rfl rfl rfl (fun _ => rfl)) rfl ?_
          refine AD.r 2 rfl (rd_move rfl rfl) rfl ?_
          refine AD.fork (d := 31) rfl (fun h31 => ?_) (fun h31 => ?_)
          · (try simp only [decide_eq_true_eq, decide_eq_false_iff_not, beq_iff_eq, beq_eq_false_iff_ne, bne_iff_ne, bne_eq_false_iff_eq, Bool.not_eq_true', Bool.not_eq_false', ne_eq, Bool.not_eq_eq_eq_not, Bool.not_true, Bool.not_false, gt_iff_lt, ge_iff_le, Bool.not_not] at h31)
            exfalso; omega
          · (try simp only [decide_eq_true_eq, decide_eq_false_iff_not, beq_iff_eq, beq_eq_false_iff_ne, bne_iff_ne, bne_eq_false_iff_eq, Bool.not_eq_true', Bool.not_eq_false', ne_eq, Bool.not_eq_eq_eq_not, Bool.not_true, Bool.not_false, gt_iff_lt, ge_iff_le, Bool.not_not] at h31)
            refine AD.n ?_
            refine AD.s 3 rfl ⟨_, _, rfl, rfl, rfl⟩ ?_
            refine AD.s 4 rfl ⟨_, _, rfl, rfl, rfl⟩ ?_
            refine AD.s 5 rfl ⟨_, _, rfl, rfl, rfl⟩ ?_
            refine AD.s 6 rfl ⟨_, _, rfl, rfl, rfl⟩ ?_
            refine AD.s 7 rfl ⟨_, _, rfl, rfl, rfl⟩ ?_
            refine AD.s 8 rfl ⟨_, _, rfl, rfl, rfl⟩ ?_
            refine AD.s 9 rfl ⟨_, _, rfl, rfl, rfl⟩ ?_
            refine AD.s 10 rfl ⟨_, _, rfl, rfl, rfl⟩ ?_
            refine AD.r 11 rfl (rd_pick_f rfl rfl rfl) rfl ?_
            refine AD.r 12 rfl (rd_move rfl rfl) rfl ?_
            refine AD.r 13 rfl (rd_move rfl rfl) ⟨_, _, rfl, rfl, rfl⟩ ?_
            refine AD.r 14 rfl (rd_bin rfl rfl rfl (fun _ => rfl)) ⟨_, _, rfl, rfl, rfl⟩ ?_
            refine AD.r 15 rfl (rd_move rfl rfl) ⟨_, _, rfl, rfl, rfl⟩ ?_
            refine AD.fork (d := 44) rfl (fun h44 => ?_) (fun h44 => ?_)
            · (try simp only [decide_eq_true_eq, decide_eq_false_iff_not, beq_iff_eq, beq_eq_false_iff_ne, bne_iff_ne, bne_eq_false_iff_eq, Bool.not_eq_true', Bool.not_eq_false', ne_eq, Bool.not_eq_eq_eq_not, Bool.not_true, Bool.not_false, gt_iff_lt, ge_iff_le, Bool.not_not] at h44)
              refine AD.n ?_
              refine AD.r 16 rfl (rd_move rfl rfl) ⟨_, _, rfl, rfl, rfl⟩ ?_
              refine AD.r 17 rfl (rd_bin rfl rfl rfl (fun _ => rfl)) ⟨_, _, rfl, rfl, rfl⟩ ?_
              refine AD.r 18 rfl (rd_move rfl rfl) ⟨_, _, rfl, rfl, rfl⟩ ?_
              refine AD.fork (d := 47) rfl (fun h47 => ?_) (fun h47 => ?_)
              · (try simp only [decide_eq_true_eq, decide_eq_false_iff_not, beq_iff_eq, beq_eq_false_iff_ne, bne_iff_ne, bne_eq_false_iff_eq, Bool.not_eq_true', Bool.not_eq_false', ne_eq, Bool.not_eq_eq_eq_not, Bool.not_true, Bool.not_false, gt_iff_lt, ge_iff_le, Bool.not_not] at h47)
                exact absurd trivial h47
              · (try simp only [decide_eq_true_eq, decide_eq_false_iff_not, beq_iff_eq, beq_eq_false_iff_ne, bne_iff_ne, bne_eq_false_iff_eq, Bool.not_eq_true', Bool.not_eq_false', ne_eq, Bool.not_eq_eq_eq_not, Bool.not_true, Bool.not_false, gt_iff_lt, ge_iff_le, Bool.not_not] at h47)
                refine AD.n ?_
                refine AD.r 19 rfl (rd_loadN_bx rfl ag_30 rfl rfl (Nat.le_of_ble_eq_true rfl) rfl) ⟨_, _, rfl, rfl, rfl⟩ ?_
                refine AD.r 20 rfl (rd_move rfl rfl) ⟨_, _, rfl, rfl, rfl⟩ ?_
                refine AD.r 21 rfl (rd_move rfl rfl) ⟨_, _, rfl, rfl, rfl⟩ ?_
                refine AD.r 22 rfl (rd_iaddr_sl rfl el_23 rfl rfl rfl (get_mapA hi) rfl) ⟨_, _, rfl, rfl, rfl⟩ ?_
                refine AD.r 23 rfl (rd_loadN_ep rfl ag_30 rfl (Nat.le_of_ble_eq_true rfl) rfl) ⟨_, _, rfl, rfl, rfl⟩ ?_
                refine AD.move 24 rfl (by kernel_rfl) ⟨_, _, rfl, rfl, rfl⟩ (op_call (rsame_c (l[i]'hi) (l[i]'hi) (by have := (heavyS_small h16).at_ hi; omega)) rfl (by kernel_rfl) rfl (none) ?_)
                rintro r rfl
                refine AD.n ?_
                refine AD.r 25 rfl (rd_un rfl rfl (fun _ => rfl)) ⟨_, _, rfl, rfl, rfl⟩ ?_
                refine AD.r 26 rfl (rd_pick_f rfl rfl rfl) ⟨_, _, rfl, rfl, rfl⟩ ?_
                refine AD.r 27 rfl (rd_pick_t rfl rfl rfl) ⟨_, _, rfl, rfl, rfl⟩ ?_
                refine AD.r 28 rfl (rd_pick_f rfl rfl rfl) rfl ?_
                refine AD.done (by kernel_rfl) ?_
                change AW _ _ _ _ _
                refine AW.cond rfl (fun h57 => ?_) (fun h57 => ?_)
                · (try simp only [decide_eq_true_eq, decide_eq_false_iff_not, beq_iff_eq, beq_eq_false_iff_ne, bne_iff_ne, bne_eq_false_iff_eq, Bool.not_eq_true', Bool.not_eq_false', ne_eq, Bool.not_eq_eq_eq_not, Bool.not_true, Bool.not_false, gt_iff_lt, ge_iff_le, Bool.not_not] at h57)
                  refine AW.seq ?_
                  simp at h57
                · (try simp only [decide_eq_true_eq, decide_eq_false_iff_not, beq_iff_eq, beq_eq_false_iff_ne, bne_iff_ne, bne_eq_false_iff_eq, Bool.not_eq_true', Bool.not_eq_false', ne_eq, Bool.not_eq_eq_eq_not, Bool.not_true, Bool.not_false, gt_iff_lt, ge_iff_le, Bool.not_not] at h57)
                  refine AW.skip ?_
                  change AW _ _ _ _ _
                  refine AW.seq ?_
                  refine AW.region ?_
                  refine AL.r (rd_move rfl rfl) ?_
                  refine AL.op rfl (AOpB.op (op_call (sright_c l) rfl (by kernel_rfl) rfl (none) ?_))
                  rintro r rfl
                  refine AL.n ?_
                  refine AL.r (rd_move rfl rfl) ?_
                  refine AL.op rfl (AOpB.op (op_call (rright14 l (heavyS_small h16)) rfl (by kernel_rfl) rfl (none) ?_))
                  rintro r rfl
                  refine AL.n ?_
                  refine AL.r (rd_beql rfl bo_4 rfl rfl) ?_
                  refine AL.r (rd_move rfl rfl) ?_
                  refine AL.fork (d := 63) rfl (fun h63 => ?_) (fun h63 => ?_)
                  · (try simp only [decide_eq_true_eq, decide_eq_false_iff_not, beq_iff_eq, beq_eq_false_iff_ne, bne_iff_ne, bne_eq_false_iff_eq, Bool.not_eq_true', Bool.not_eq_false', ne_eq, Bool.not_eq_eq_eq_not, Bool.not_true, Bool.not_false, gt_iff_lt, ge_iff_le, Bool.not_not] at h63)
                    refine AL.n ?_
                    refine AL.ro (rd_move rfl rfl) ?_
                    refine AL.ro (rd_move rfl rfl) ?_
                    refine AL.on rfl rfl rfl (AOpB.op (op_call (ssame_c l m (by have := (heavyS_small h16).1; omega)) rfl (by kernel_rfl) rfl (none) ?_))
                    rintro r rfl
                    refine AL.n ?_
                    refine AL.ro (rd_move rfl rfl) ?_
                    refine AL.ro (rd_move rfl rfl) ?_
                    refine AL.on rfl rfl rfl (AOpB.op (op_call (rsame14s l m (heavyS_small h16)) rfl (by kernel_rfl) rfl (none) ?_))
                    rintro r rfl
                    refine AL.n ?_
                    refine AL.ro (rd_beql rfl bo_4 rfl rfl) ?_
                    refine AL.r (rd_pick_t rfl rfl rfl) ?_
                    refine AL.r (rd_move rfl rfl) ?_
                    refine AL.fork (d := 72) rfl (fun h72 => ?_) (fun h72 => ?_)
                    · (try simp only [decide_eq_true_eq, decide_eq_false_iff_not, beq_iff_eq, beq_eq_false_iff_ne, bne_iff_ne, bne_eq_false_iff_eq, Bool.not_eq_true', Bool.not_eq_false', ne_eq, Bool.not_eq_eq_eq_not, Bool.not_true, Bool.not_false, gt_iff_lt, ge_iff_le, Bool.not_not] at h72)
                      refine AL.n ?_
                      refine AL.ro (rd_move rfl rfl) ?_
                      refine AL.ro (rd_move rfl rfl) ?_
                      refine AL.on rfl rfl rfl (AOpB.op (op_call (sown_c l (heavyS_small h16)) rfl (by kernel_rfl) rfl (none) ?_))
                      rintro r rfl
                      refine AL.n ?_
                      refine AL.on rfl rfl rfl (AOpB.op (op_call (ssame_c l l (by have := (heavyS_small h16).1; omega)) rfl (by kernel_rfl) rfl (none) ?_))
                      rintro r rfl
                      refine AL.n ?_
                      refine AL.r (rd_pick_t rfl rfl rfl) ?_
                      refine AL.r (rd_move rfl rfl) ?_
                      refine AL.fork (d := 78) rfl (fun h78 => ?_) (fun h78 => ?_)
                      · (try simp only [decide_eq_true_eq, decide_eq_false_iff_not, beq_iff_eq, beq_eq_false_iff_ne, bne_iff_ne, bne_eq_false_iff_eq, Bool.not_eq_true', Bool.not_eq_false', ne_eq, Bool.not_eq_eq_eq_not, Bool.not_true, Bool.not_false, gt_iff_lt, ge_iff_le, Bool.not_not] at h78)
                        refine AL.n ?_
                        refine AL.ro (rd_move rfl rfl) ?_
                        refine AL.ro (rd_move rfl rfl) ?_
                        refine AL.on rfl rfl rfl (AOpB.op (op_call (sscope_c l n (heavyS_small h16)) rfl (by kernel_rfl) rfl (none) ?_))
                        rintro r rfl
                        refine AL.n ?_
                        refine AL.ro (rd_move rfl rfl) ?_
                        refine AL.ro (rd_move rfl rfl) ?_
                        refine AL.on rfl rfl rfl (AOpB.op (op_call (rscope14 l n (heavyS_small h16)) rfl (by kernel_rfl) rfl (none) ?_))
                        rintro r rfl
                        refine AL.n ?_
                        refine AL.on rfl rfl rfl (AOpB.op (op_call (rsame14s _ _ ((heavyS_small h16).filter _)) rfl (by kernel_rfl) rfl (none) ?_))
                        rintro r rfl
                        refine AL.n ?_
                        refine AL.r (rd_pick_t rfl rfl rfl) ?_
                        refine AL.r (rd_assign rfl rfl) ?_
                        refine AL.nil ?_
                        change AW _ _ _ _ _
                        refine AW.ret ?_
                        change ResA _ _ _ _ _
                        refine res1 rfl (ResV.tmp rfl) rfl ?_
                        first | rfl | simp
                      · (try simp only [decide_eq_true_eq, decide_eq_false_iff_not, beq_iff_eq, beq_eq_false_iff_ne, bne_iff_ne, bne_eq_false_iff_eq, Bool.not_eq_true', Bool.not_eq_false', ne_eq, Bool.not_eq_eq_eq_not, Bool.not_true, Bool.not_false, gt_iff_lt, ge_iff_le, Bool.not_not] at h78)
                        exact absurd trivial h78
                    · (try simp only [decide_eq_true_eq, decide_eq_false_iff_not, beq_iff_eq, beq_eq_false_iff_ne, bne_iff_ne, bne_eq_false_iff_eq, Bool.not_eq_true', Bool.not_eq_false', ne_eq, Bool.not_eq_eq_eq_not, Bool.not_true, Bool.not_false, gt_iff_lt, ge_iff_le, Bool.not_not] at h72)
                      exact absurd trivial h72
                  · (try simp only [decide_eq_true_eq, decide_eq_false_iff_not, beq_iff_eq, beq_eq_false_iff_ne, bne_iff_ne, bne_eq_false_iff_eq, Bool.not_eq_true', Bool.not_eq_false', ne_eq, Bool.not_eq_eq_eq_not, Bool.not_true, Bool.not_false, gt_iff_lt, ge_iff_le, Bool.not_not] at h63)
                    exact absurd trivial h63
            · (try simp only [decide_eq_true_eq, decide_eq_false_iff_not, beq_iff_eq, beq_eq_false_iff_ne, bne_iff_ne, bne_eq_false_iff_eq, Bool.not_eq_true', Bool.not_eq_false', ne_eq, Bool.not_eq_eq_eq_not, Bool.not_true, Bool.not_false, gt_iff_lt, ge_iff_le, Bool.not_not] at h44)
              exfalso; omega
theorem walk_SchemaFinds (w : World) (v0 : Value) (l0 : List FldD) (rp0 : RepS AnyB w v0 (.sl (l0.map FldD.cs))) (v1 : Value) (l1 : List FldD) (rp1 : RepS AnyB w v1 (.sl (l1.map FldD.cs))) (v2 : Value) (r2 : RefD) (rp2 : RepS AnyB w v2 r2.av) (a3 : Int) (w3 : (Lit.int .i64 a3).wf = true) :
    Calls Try.prog 5 #[v0, v1, v2, .int .i64 a3] w fun e w' => e = .returned (.bool true) ∧ Below w.heap.size w w' :=
  (finds_c l0 l1 r2 a3).law (vs := [v0, v1, v2, .int .i64 a3]) rfl (rep_cons rp0 (rep_cons rp1 (rep_cons rp2 (rep_cons (.sc _) rep_nil))))
end Go.Proofs.Ytfnpgaiaebkkmaa
