/- Places printed and read, walked over abstract states; the chapter's example holds. -/
import Derived.Test.YtpkjlmaphhileaaDoorSpl
import Derived.Test.YtpkjlmaphhileaaDoorRefA
import Derived.Test.YtpkjlmaphhileaaDoorJa
namespace Go.Proofs.YtpkjlmaphhileaaDoor
set_option linter.unusedSimpArgs false
set_option linter.unusedVariables false
set_option maxRecDepth 100000
open Go.RowKit

def headW : Bytes := [104, 101, 97, 100]
def lineW : Bytes := [108, 105, 110, 101]
def printB (r : RefD) : Bytes := if placeB r then (if r.scope = 1 then lineW else headW) ++ (if r.group ≠ [] then [46] ++ r.group else []) ++ [46] ++ r.name else [63]
theorem place_len {r : RefD} (h : placeB r = true) : r.name.length ≤ 12 ∧ r.group.length ≤ 12 := by
  unfold placeB nameB at h
  simp only [Bool.and_eq_true, Bool.or_eq_true, decide_eq_true_eq, beq_iff_eq] at h
  rcases h.2 with e | e
  · rw [e]; exact ⟨h.1.2.1.2, by simp⟩
  · exact ⟨h.1.2.1.2, e.1.2⟩
theorem fprint_c (r : RefD) : AC Tryd.prog 8 [r.av] (fun x => x = .s (AS (printB r))) := by
  refine AC.of' 22 1 Tryd.func8 rfl ?_
  change AW _ _ _ _ [TK.mk 0 .off]
  refine AW.seq ?_
  refine AW.region ?_
  refine AL.op rfl (AOpB.op (op_box 0 rfl rfl rfl rfl rfl ?_))
  refine AL.n ?_
  refine AL.ra ?_
  refine AL.nil ?_
  change AW _ _ _ _ _
  refine AW.seq ?_
  refine AW.seq ?_
  refine AW.region ?_
  refine AL.r (rd_loadN_bx rfl ag_23 rfl rfl (Nat.le_of_ble_eq_true rfl) rfl) ?_
  refine AL.op rfl (AOpB.op (op_call (place_c _) rfl (by kernel_rfl) rfl (none) ?_))
  rintro r rfl
  refine AL.n ?_
  refine AL.r (rd_un rfl rfl (fun _ => rfl)) ?_
  refine AL.nil ?_
  change AW _ _ _ _ _
  refine AW.cd rfl (fun h6 => ?_) (fun h6 => ?_)
  ·skip
   refine AW.seq ?_
   refine AW.region ?_
   refine AL.ra ?_
   refine AL.nil ?_
   change AW _ _ _ _ _
   refine AW.ret ?_
   change ResA _ _ _ _ _
   refine res1 rfl (ResV.tmp rfl) rfl ?_
   simp_all [printB, headW, lineW]
  ·skip
   refine AW.skip ?_
   change AW _ _ _ _ _
   refine AW.seq ?_
   refine AW.region ?_
   have hl := place_len (r := r) (by simp_all)
   refine AL.ra ?_
   refine AL.nil ?_
   change AW _ _ _ _ _
   refine AW.seq ?_
   refine AW.seq ?_
   refine AW.region ?_
   refine AL.r (rd_faddr_bx rfl fo_23_0 rfl rfl ⟨_, _, rfl⟩) ?_
   refine AL.r (rd_load_bx rfl ag_3 rfl rfl rfl) ?_
   refine AL.r (rd_bin rfl rfl rfl (fun _ => rfl)) ?_
   refine AL.nil ?_
   change AW _ _ _ _ _
   refine AW.cd rfl (fun h9 => ?_) (fun h9 => ?_)
   ·skip
    refine AW.region ?_
    refine AL.ra ?_
    refine AL.nil ?_
    change AW _ _ _ _ _
    refine AW.seq ?_
    refine AW.seq ?_
    refine AW.region ?_
    refine AL.r (rd_faddr_bx rfl fo_23_1 rfl rfl ⟨_, _, rfl⟩) ?_
    refine AL.r (rd_load_bx rfl ag_9 rfl rfl rfl) ?_
    refine AL.r (rd_sne rfl rfl rfl) ?_
    refine AL.nil ?_
    change AW _ _ _ _ _
    refine AW.cd rfl (fun h12 => ?_) (fun h12 => ?_)
    ·skip
     refine AW.region ?_
     refine AL.rm ?_
     refine AL.r (rd_faddr_bx rfl fo_23_1 rfl rfl ⟨_, _, rfl⟩) ?_
     refine AL.r (rd_load_bx rfl ag_9 rfl rfl rfl) ?_
     refine AL.r (rd_scat rfl rfl rfl ((by simp only [List.length_append, List.length_cons, List.length_nil]; omega))) ?_
     refine AL.r (rd_scat rfl rfl rfl ((by simp only [List.length_append, List.length_cons, List.length_nil]; omega))) ?_
     refine AL.ra ?_
     refine AL.nil ?_
     change AW _ _ _ _ _
     refine AW.seq ?_
     refine AW.region ?_
     refine AL.rm ?_
     refine AL.r (rd_scat rfl rfl rfl ((by simp only [List.length_append, List.length_cons, List.length_nil]; omega))) ?_
     refine AL.r (rd_faddr_bx rfl fo_23_2 rfl rfl ⟨_, _, rfl⟩) ?_
     refine AL.r (rd_load_bx rfl ag_9 rfl rfl rfl) ?_
     refine AL.r (rd_scat rfl rfl rfl ((by simp only [List.length_append, List.length_cons, List.length_nil]; omega))) ?_
     refine AL.ra ?_
     refine AL.nil ?_
     change AW _ _ _ _ _
     refine AW.ret ?_
     change ResA _ _ _ _ _
     refine res1 rfl (ResV.tmp rfl) rfl ?_
     simp_all [printB, headW, lineW]
    ·skip
     refine AW.skip ?_
     change AW _ _ _ _ _
     refine AW.seq ?_
     refine AW.region ?_
     refine AL.rm ?_
     refine AL.r (rd_scat rfl rfl rfl ((by simp only [List.length_append, List.length_cons, List.length_nil]; omega))) ?_
     refine AL.r (rd_faddr_bx rfl fo_23_2 rfl rfl ⟨_, _, rfl⟩) ?_
     refine AL.r (rd_load_bx rfl ag_9 rfl rfl rfl) ?_
     refine AL.r (rd_scat rfl rfl rfl ((by simp only [List.length_append, List.length_cons, List.length_nil]; omega))) ?_
     refine AL.ra ?_
     refine AL.nil ?_
     change AW _ _ _ _ _
     refine AW.ret ?_
     change ResA _ _ _ _ _
     refine res1 rfl (ResV.tmp rfl) rfl ?_
     simp_all [printB, headW, lineW]
   ·skip
    refine AW.skip ?_
    change AW _ _ _ _ _
    refine AW.seq ?_
    refine AW.seq ?_
    refine AW.region ?_
    refine AL.r (rd_faddr_bx rfl fo_23_1 rfl rfl ⟨_, _, rfl⟩) ?_
    refine AL.r (rd_load_bx rfl ag_9 rfl rfl rfl) ?_
    refine AL.r (rd_sne rfl rfl rfl) ?_
    refine AL.nil ?_
    change AW _ _ _ _ _
    refine AW.cd rfl (fun h12 => ?_) (fun h12 => ?_)
    ·skip
     refine AW.region ?_
     refine AL.rm ?_
     refine AL.r (rd_faddr_bx rfl fo_23_1 rfl rfl ⟨_, _, rfl⟩) ?_
     refine AL.r (rd_load_bx rfl ag_9 rfl rfl rfl) ?_
     refine AL.r (rd_scat rfl rfl rfl ((by simp only [List.length_append, List.length_cons, List.length_nil]; omega))) ?_
     refine AL.r (rd_scat rfl rfl rfl ((by simp only [List.length_append, List.length_cons, List.length_nil]; omega))) ?_
     refine AL.ra ?_
     refine AL.nil ?_
     change AW _ _ _ _ _
     refine AW.seq ?_
     refine AW.region ?_
     refine AL.rm ?_
     refine AL.r (rd_scat rfl rfl rfl ((by simp only [List.length_append, List.length_cons, List.length_nil]; omega))) ?_
     refine AL.r (rd_faddr_bx rfl fo_23_2 rfl rfl ⟨_, _, rfl⟩) ?_
     refine AL.r (rd_load_bx rfl ag_9 rfl rfl rfl) ?_
     refine AL.r (rd_scat rfl rfl rfl ((by simp only [List.length_append, List.length_cons, List.length_nil]; omega))) ?_
     refine AL.ra ?_
     refine AL.nil ?_
     change AW _ _ _ _ _
     refine AW.ret ?_
     change ResA _ _ _ _ _
     refine res1 rfl (ResV.tmp rfl) rfl ?_
     simp_all [printB, headW, lineW]
    ·skip
     refine AW.skip ?_
     change AW _ _ _ _ _
     refine AW.seq ?_
     refine AW.region ?_
     refine AL.rm ?_
     refine AL.r (rd_scat rfl rfl rfl ((by simp only [List.length_append, List.length_cons, List.length_nil]; omega))) ?_
     refine AL.r (rd_faddr_bx rfl fo_23_2 rfl rfl ⟨_, _, rfl⟩) ?_
     refine AL.r (rd_load_bx rfl ag_9 rfl rfl rfl) ?_
     refine AL.r (rd_scat rfl rfl rfl ((by simp only [List.length_append, List.length_cons, List.length_nil]; omega))) ?_
     refine AL.ra ?_
     refine AL.nil ?_
     change AW _ _ _ _ _
     refine AW.ret ?_
     change ResA _ _ _ _ _
     refine res1 rfl (ResV.tmp rfl) rfl ?_
     simp_all [printB, headW, lineW]
theorem rprint_c (r : RefD) : AC Tryd.prog 13 [r.av] (fun x => x = .s (AS (printB r))) := by
  refine AC.of' 21 1 Tryd.func13 rfl ?_
  change AW _ _ _ _ [TK.mk 0 .off]
  refine AW.seq ?_
  refine AW.region ?_
  refine AL.op rfl (AOpB.op (op_box 0 rfl rfl rfl rfl rfl ?_))
  refine AL.n ?_
  refine AL.ra ?_
  refine AL.nil ?_
  change AW _ _ _ _ _
  refine AW.seq ?_
  refine AW.seq ?_
  refine AW.region ?_
  refine AL.r (rd_loadN_bx rfl ag_23 rfl rfl (Nat.le_of_ble_eq_true rfl) rfl) ?_
  refine AL.op rfl (AOpB.op (op_call (rplace_c _) rfl (by kernel_rfl) rfl (none) ?_))
  rintro r rfl
  refine AL.n ?_
  refine AL.r (rd_un rfl rfl (fun _ => rfl)) ?_
  refine AL.nil ?_
  change AW _ _ _ _ _
  refine AW.cd rfl (fun h6 => ?_) (fun h6 => ?_)
  ·skip
   refine AW.seq ?_
   refine AW.region ?_
   refine AL.ra ?_
   refine AL.nil ?_
   change AW _ _ _ _ _
   refine AW.ret ?_
   change ResA _ _ _ _ _
   refine res1 rfl (ResV.tmp rfl) rfl ?_
   simp_all [printB, headW, lineW]
  ·skip
   refine AW.skip ?_
   change AW _ _ _ _ _
   refine AW.seq ?_
   refine AW.region ?_
   have hl := place_len (r := r) (by simp_all)
   refine AL.ra ?_
   refine AL.nil ?_
   change AW _ _ _ _ _
   refine AW.seq ?_
   refine AW.seq ?_
   refine AW.region ?_
   refine AL.r (rd_faddr_bx rfl fo_23_0 rfl rfl ⟨_, _, rfl⟩) ?_
   refine AL.r (rd_load_bx rfl ag_3 rfl rfl rfl) ?_
   refine AL.r (rd_bin rfl rfl rfl (fun _ => rfl)) ?_
   refine AL.nil ?_
   change AW _ _ _ _ _
   refine AW.cd rfl (fun h9 => ?_) (fun h9 => ?_)
   ·skip
    refine AW.region ?_
    refine AL.ra ?_
    refine AL.nil ?_
    change AW _ _ _ _ _
    refine AW.seq ?_
    refine AW.seq ?_
    refine AW.region ?_
    refine AL.r (rd_faddr_bx rfl fo_23_1 rfl rfl ⟨_, _, rfl⟩) ?_
    refine AL.r (rd_load_bx rfl ag_9 rfl rfl rfl) ?_
    refine AL.r (rd_sne rfl rfl rfl) ?_
    refine AL.nil ?_
    change AW _ _ _ _ _
    refine AW.cd rfl (fun h12 => ?_) (fun h12 => ?_)
    ·skip
     refine AW.region ?_
     refine AL.rm ?_
     refine AL.r (rd_faddr_bx rfl fo_23_1 rfl rfl ⟨_, _, rfl⟩) ?_
     refine AL.r (rd_load_bx rfl ag_9 rfl rfl rfl) ?_
     refine AL.r (rd_scat rfl rfl rfl ((by simp only [List.length_append, List.length_cons, List.length_nil]; omega))) ?_
     refine AL.r (rd_scat rfl rfl rfl ((by simp only [List.length_append, List.length_cons, List.length_nil]; omega))) ?_
     refine AL.ra ?_
     refine AL.nil ?_
     change AW _ _ _ _ _
     refine AW.seq ?_
     refine AW.region ?_
     refine AL.rm ?_
     refine AL.r (rd_faddr_bx rfl fo_23_2 rfl rfl ⟨_, _, rfl⟩) ?_
     refine AL.r (rd_load_bx rfl ag_9 rfl rfl rfl) ?_
     refine AL.r (rd_scat rfl rfl rfl ((by simp only [List.length_append, List.length_cons, List.length_nil]; omega))) ?_
     refine AL.ra ?_
     refine AL.nil ?_
     change AW _ _ _ _ _
     refine AW.ret ?_
     change ResA _ _ _ _ _
     refine res1 rfl (ResV.tmp rfl) rfl ?_
     simp_all [printB, headW, lineW]
    ·skip
     refine AW.skip ?_
     change AW _ _ _ _ _
     refine AW.seq ?_
     refine AW.region ?_
     refine AL.rm ?_
     refine AL.r (rd_faddr_bx rfl fo_23_2 rfl rfl ⟨_, _, rfl⟩) ?_
     refine AL.r (rd_load_bx rfl ag_9 rfl rfl rfl) ?_
     refine AL.r (rd_scat rfl rfl rfl ((by simp only [List.length_append, List.length_cons, List.length_nil]; omega))) ?_
     refine AL.ra ?_
     refine AL.nil ?_
     change AW _ _ _ _ _
     refine AW.ret ?_
     change ResA _ _ _ _ _
     refine res1 rfl (ResV.tmp rfl) rfl ?_
     simp_all [printB, headW, lineW]
   ·skip
    refine AW.skip ?_
    change AW _ _ _ _ _
    refine AW.seq ?_
    refine AW.seq ?_
    refine AW.region ?_
    refine AL.r (rd_faddr_bx rfl fo_23_1 rfl rfl ⟨_, _, rfl⟩) ?_
    refine AL.r (rd_load_bx rfl ag_9 rfl rfl rfl) ?_
    refine AL.r (rd_sne rfl rfl rfl) ?_
    refine AL.nil ?_
    change AW _ _ _ _ _
    refine AW.cd rfl (fun h12 => ?_) (fun h12 => ?_)
    ·skip
     refine AW.region ?_
     refine AL.rm ?_
     refine AL.r (rd_faddr_bx rfl fo_23_1 rfl rfl ⟨_, _, rfl⟩) ?_
     refine AL.r (rd_load_bx rfl ag_9 rfl rfl rfl) ?_
     refine AL.r (rd_scat rfl rfl rfl ((by simp only [List.length_append, List.length_cons, List.length_nil]; omega))) ?_
     refine AL.r (rd_scat rfl rfl rfl ((by simp only [List.length_append, List.length_cons, List.length_nil]; omega))) ?_
     refine AL.ra ?_
     refine AL.nil ?_
     change AW _ _ _ _ _
     refine AW.seq ?_
     refine AW.region ?_
     refine AL.rm ?_
     refine AL.r (rd_faddr_bx rfl fo_23_2 rfl rfl ⟨_, _, rfl⟩) ?_
     refine AL.r (rd_load_bx rfl ag_9 rfl rfl rfl) ?_
     refine AL.r (rd_scat rfl rfl rfl ((by simp only [List.length_append, List.length_cons, List.length_nil]; omega))) ?_
     refine AL.ra ?_
     refine AL.nil ?_
     change AW _ _ _ _ _
     refine AW.ret ?_
     change ResA _ _ _ _ _
     refine res1 rfl (ResV.tmp rfl) rfl ?_
     simp_all [printB, headW, lineW]
    ·skip
     refine AW.skip ?_
     change AW _ _ _ _ _
     refine AW.seq ?_
     refine AW.region ?_
     refine AL.rm ?_
     refine AL.r (rd_faddr_bx rfl fo_23_2 rfl rfl ⟨_, _, rfl⟩) ?_
     refine AL.r (rd_load_bx rfl ag_9 rfl rfl rfl) ?_
     refine AL.r (rd_scat rfl rfl rfl ((by simp only [List.length_append, List.length_cons, List.length_nil]; omega))) ?_
     refine AL.ra ?_
     refine AL.nil ?_
     change AW _ _ _ _ _
     refine AW.ret ?_
     change ResA _ _ _ _ _
     refine res1 rfl (ResV.tmp rfl) rfl ?_
     simp_all [printB, headW, lineW]

def part (s : Bytes) (i : Nat) : Bytes := (spl s).getD i []
/-- What stands in the parts. -/
def partsR (s : Bytes) : RefD := ⟨if part s 0 = headW then 0 else 1, if (spl s).length = 3 then part s 1 else [], if (spl s).length = 2 then part s 1 else if (spl s).length = 3 then part s 2 else []⟩
def readP (s : Bytes) : RefD × Int := if (part s 0 = headW ∨ part s 0 = lineW) ∧ placeB (partsR s) ∧ printB (partsR s) = s then (partsR s, 0) else (⟨0, [], []⟩, 4)
theorem spl_pos (s : Bytes) : 0 < (spl s).length := by rw [spl_len]; omega
theorem part_at {s : Bytes} {i : Nat} (h : i < (spl s).length) : (spl s)[i] = part s i := by simp [part, h]
set_option maxHeartbeats 1000000 in
theorem fread_c (s : Bytes) (hs : s.length ≤ 1000) : AC Tryd.prog 9 [AS s] (fun x => x = .s (.tu [(readP s).1.av, AI (readP s).2])) := by
  have hp := spl_pos s
  refine AC.of' 46 2 Tryd.func9 rfl ?_
  change AW _ _ _ _ [TK.mk 0 .off, TK.mk 0 .off]
  refine AW.seq ?_
  refine AW.region ?_
  refine AL.op rfl (AOpB.op (op_alloc 0 rfl ze_23 rfl ?_))
  refine AL.n ?_
  refine AL.ra ?_
  refine AL.nil ?_
  change AW _ _ _ _ _
  refine AW.seq ?_
  refine AW.region ?_
  refine AL.op rfl (AOpB.op (op_alloc 1 rfl ze_23 rfl ?_))
  refine AL.n ?_
  refine AL.nil ?_
  change AW _ _ _ _ _
  refine AW.seq ?_
  refine AW.region ?_
  refine AL.rm ?_
  refine AL.op rfl (AOpB.op (op_call (split_c s hs) rfl (by kernel_rfl) rfl (none) ?_))
  rintro r rfl
  refine AL.n ?_
  refine AL.ra ?_
  refine AL.nil ?_
  change AW _ _ _ _ _
  refine AW.seq ?_
  refine AW.seq ?_
  refine AW.region ?_
  refine AL.rm ?_
  refine AL.r (rd_iaddr_sl (n := 0) rfl el_35 rfl rfl rfl (get_mapA (by omega)) rfl) ?_
  refine AL.r (rd_load_ep rfl ag_9 rfl rfl) ?_
  refine AL.nil ?_
  change AW _ _ _ _ _
  refine AW.block ?_
  refine AW.seq ?_
  refine AW.region ?_
  refine AL.r (rd_seq rfl rfl rfl) ?_
  refine AL.ra ?_
  refine AL.nil ?_
  change AW _ _ _ _ _
  refine AW.cd rfl (fun h12 => ?_) (fun h12 => ?_)
  ·skip
   refine AW.region ?_
   refine AL.r (rd_faddr_bx rfl fo_23_0 rfl rfl ⟨_, _, rfl⟩) ?_
   refine AL.op rfl (op_store_ rfl rfl rfl rfl rfl sz_3 ?_)
   refine AL.b ?_
   refine AL.nil ?_
   change AW _ _ _ _ _
   refine AW.seq ?_
   refine AW.seq ?_
   refine AW.region ?_
   refine AL.rm ?_
   refine AL.r (rd_len_sl rfl el_35 rfl) ?_
   refine AL.nil ?_
   change AW _ _ _ _ _
   refine AW.block ?_
   refine AW.seq ?_
   refine AW.region ?_
   refine AL.r (rd_bin rfl rfl rfl (fun _ => rfl)) ?_
   refine AL.ra ?_
   refine AL.nil ?_
   change AW _ _ _ _ _
   refine AW.cd rfl (fun h20 => ?_) (fun h20 => ?_)
   ·skip
    refine AW.region ?_
    refine AL.rm ?_
    refine AL.r (rd_iaddr_sl (n := 1) rfl el_35 rfl rfl rfl (get_mapA (by omega)) rfl) ?_
    refine AL.r (rd_load_ep rfl ag_9 rfl rfl) ?_
    refine AL.r (rd_faddr_bx rfl fo_23_2 rfl rfl ⟨_, _, rfl⟩) ?_
    refine AL.op rfl (op_store_ rfl rfl rfl rfl rfl sz_9 ?_)
    refine AL.b ?_
    refine AL.nil ?_
    change AW _ _ _ _ _
    refine AW.seq ?_
    refine AW.seq ?_
    refine AW.region ?_
    refine AL.r (rd_loadN_bx rfl ag_23 rfl rfl (Nat.le_of_ble_eq_true rfl) rfl) ?_
    refine AL.op rfl (AOpB.op (op_call (place_c ⟨_, _, _⟩) rfl (by kernel_rfl) rfl (none) ?_))
    rintro r rfl
    refine AL.n ?_
    refine AL.r (rd_un rfl rfl (fun _ => rfl)) ?_
    refine AL.rm ?_
    refine AL.fk (d := 39) rfl (fun h39 => ?_) (fun h39 => ?_)
    ·skip
     refine AL.n ?_
     refine AL.rf ?_
     refine AL.rf ?_
     refine AL.rf ?_
     refine AL.rf ?_
     refine AL.r (rd_pick_t rfl rfl rfl) ?_
     refine AL.nil ?_
     change AW _ _ _ _ _
     refine AW.cond_t rfl ?_
     refine AW.seq ?_
     refine AW.region ?_
     refine AL.r (rd_build rfl pl_23 ze_23 rfl rfl) ?_
     refine AL.op rfl (op_store_ rfl rfl rfl rfl rfl sz_23 ?_)
     refine AL.b ?_
     refine AL.ra ?_
     refine AL.nil ?_
     change AW _ _ _ _ _
     refine AW.ret ?_
     change ResA _ _ _ _ _
     refine res2 rfl (ResV.cells rfl rfl ag_23 (Nat.le_of_ble_eq_true rfl) rfl) rfl (ResV.tmp rfl) rfl ?_
     (obtain ⟨l, e⟩ : ∃ l, spl s = l := ⟨_, rfl⟩; rcases l with _ | ⟨p0, _ | ⟨p1, _ | ⟨p2, _ | ⟨p3, ps⟩⟩⟩⟩ <;> simp only [e, List.length_cons, List.length_nil, List.getElem_cons_zero, List.getElem_cons_succ] at hp h12 ⊢ <;> (try simp only [e, List.length_cons, List.length_nil] at h20) <;> (try simp only [e, List.length_cons, List.length_nil] at h26) <;> (try simp only [e, List.getElem_cons_zero] at h15) <;> simp_all [readP, partsR, part, RefD.cs, headW, lineW] <;> omega)
    ·skip
     refine AL.n ?_
     refine AL.ro (rd_loadN_bx rfl ag_23 rfl rfl (Nat.le_of_ble_eq_true rfl) rfl) ?_
     refine AL.on rfl rfl rfl (AOpB.op (op_call (fprint_c ⟨_, _, _⟩) rfl (by kernel_rfl) rfl (none) ?_))
     rintro r rfl
     refine AL.n ?_
     refine AL.ro (rd_move rfl rfl) ?_
     refine AL.ro (rd_sne rfl rfl rfl) ?_
     refine AL.r (rd_pick_f rfl rfl rfl) ?_
     refine AL.nil ?_
     change AW _ _ _ _ _
     refine AW.cd rfl (fun h44 => ?_) (fun h44 => ?_)
     ·skip
      refine AW.seq ?_
      refine AW.region ?_
      refine AL.r (rd_build rfl pl_23 ze_23 rfl rfl) ?_
      refine AL.op rfl (op_store_ rfl rfl rfl rfl rfl sz_23 ?_)
      refine AL.b ?_
      refine AL.ra ?_
      refine AL.nil ?_
      change AW _ _ _ _ _
      refine AW.ret ?_
      change ResA _ _ _ _ _
      refine res2 rfl (ResV.cells rfl rfl ag_23 (Nat.le_of_ble_eq_true rfl) rfl) rfl (ResV.tmp rfl) rfl ?_
      (obtain ⟨l, e⟩ : ∃ l, spl s = l := ⟨_, rfl⟩; rcases l with _ | ⟨p0, _ | ⟨p1, _ | ⟨p2, _ | ⟨p3, ps⟩⟩⟩⟩ <;> simp only [e, List.length_cons, List.length_nil, List.getElem_cons_zero, List.getElem_cons_succ] at hp h12 ⊢ <;> (try simp only [e, List.length_cons, List.length_nil] at h20) <;> (try simp only [e, List.length_cons, List.length_nil] at h26) <;> (try simp only [e, List.getElem_cons_zero] at h15) <;> simp_all [readP, partsR, part, RefD.cs, headW, lineW] <;> omega)
     ·skip
      refine AW.skip ?_
      change AW _ _ _ _ _
      refine AW.seq ?_
      refine AW.region ?_
      refine AL.r (rd_loadN_bx rfl ag_23 rfl rfl (Nat.le_of_ble_eq_true rfl) rfl) ?_
      refine AL.op rfl (op_store_ rfl rfl rfl rfl rfl sz_23 ?_)
      refine AL.b ?_
      refine AL.ra ?_
      refine AL.nil ?_
      change AW _ _ _ _ _
      refine AW.ret ?_
      change ResA _ _ _ _ _
      refine res2 rfl (ResV.cells rfl rfl ag_23 (Nat.le_of_ble_eq_true rfl) rfl) rfl (ResV.tmp rfl) rfl ?_
      (obtain ⟨l, e⟩ : ∃ l, spl s = l := ⟨_, rfl⟩; rcases l with _ | ⟨p0, _ | ⟨p1, _ | ⟨p2, _ | ⟨p3, ps⟩⟩⟩⟩ <;> simp only [e, List.length_cons, List.length_nil, List.getElem_cons_zero, List.getElem_cons_succ] at hp h12 ⊢ <;> (try simp only [e, List.length_cons, List.length_nil] at h20) <;> (try simp only [e, List.length_cons, List.length_nil] at h26) <;> (try simp only [e, List.getElem_cons_zero] at h15) <;> simp_all [readP, partsR, part, RefD.cs, headW, lineW] <;> omega)
   ·skip
    refine AW.seq ?_
    refine AW.region ?_
    refine AL.r (rd_bin rfl rfl rfl (fun _ => rfl)) ?_
    refine AL.ra ?_
    refine AL.nil ?_
    change AW _ _ _ _ _
    refine AW.cd rfl (fun h26 => ?_) (fun h26 => ?_)
    ·skip
     apply AW.drawS (by kernel_rfl)
     ·skip
      refine ADA.r 0 rfl (ARdP.a (rdP_move rfl rfl)) rfl ?_
      refine ADA.r 1 rfl (ARdP.a (rdP_iaddr_sl (n := 1) rfl el_35 rfl rfl rfl (get_mapA (by omega)) rfl)) rfl ?_
      refine ADA.r 2 rfl (rdA_load_ep rfl ag_9 rfl rfl) rfl ?_
      refine ADA.r 3 rfl (ARdP.a (rdP_move rfl rfl)) rfl ?_
      refine ADA.r 4 rfl (ARdP.a (rdP_iaddr_sl (n := 2) rfl el_35 rfl rfl rfl (get_mapA (by omega)) rfl)) rfl ?_
      refine ADA.r 5 rfl (rdA_load_ep rfl ag_9 rfl rfl) rfl ?_
      refine ADA.r 6 rfl (ARdP.a (rdP_faddr_bx rfl fo_23_1 rfl rfl ⟨_, _, rfl⟩)) rfl ?_
      refine ADA.b ?_
      refine ADB.mv 7 rfl (op_store_ rfl rfl rfl rfl rfl sz_9 ?_)
      refine ADB.n ?_
      refine ADB.r 8 rfl (rdP_faddr_bx rfl fo_23_2 rfl rfl ⟨_, _, rfl⟩) rfl ?_
      refine ADB.mv 9 rfl (op_store_ rfl rfl rfl rfl rfl sz_9 ?_)
      refine ADB.n ?_
      refine ADB.done (by kernel_rfl) ?_
      exact ⟨rfl, rfl⟩
     skip
     change AW _ _ _ _ _
     refine AW.seq ?_
     refine AW.seq ?_
     refine AW.region ?_
     refine AL.r (rd_loadN_bx rfl ag_23 rfl rfl (Nat.le_of_ble_eq_true rfl) rfl) ?_
     refine AL.op rfl (AOpB.op (op_call (place_c ⟨_, _, _⟩) rfl (by kernel_rfl) rfl (none) ?_))
     rintro r rfl
     refine AL.n ?_
     refine AL.r (rd_un rfl rfl (fun _ => rfl)) ?_
     refine AL.rm ?_
     refine AL.fk (d := 39) rfl (fun h39 => ?_) (fun h39 => ?_)
     ·skip
      refine AL.n ?_
      refine AL.rf ?_
      refine AL.rf ?_
      refine AL.rf ?_
      refine AL.rf ?_
      refine AL.r (rd_pick_t rfl rfl rfl) ?_
      refine AL.nil ?_
      change AW _ _ _ _ _
      refine AW.cond_t rfl ?_
      refine AW.seq ?_
      refine AW.region ?_
      refine AL.r (rd_build rfl pl_23 ze_23 rfl rfl) ?_
      refine AL.op rfl (op_store_ rfl rfl rfl rfl rfl sz_23 ?_)
      refine AL.b ?_
      refine AL.ra ?_
      refine AL.nil ?_
      change AW _ _ _ _ _
      refine AW.ret ?_
      change ResA _ _ _ _ _
      refine res2 rfl (ResV.cells rfl rfl ag_23 (Nat.le_of_ble_eq_true rfl) rfl) rfl (ResV.tmp rfl) rfl ?_
      (obtain ⟨l, e⟩ : ∃ l, spl s = l := ⟨_, rfl⟩; rcases l with _ | ⟨p0, _ | ⟨p1, _ | ⟨p2, _ | ⟨p3, ps⟩⟩⟩⟩ <;> simp only [e, List.length_cons, List.length_nil, List.getElem_cons_zero, List.getElem_cons_succ] at hp h12 ⊢ <;> (try simp only [e, List.length_cons, List.length_nil] at h20) <;> (try simp only [e, List.length_cons, List.length_nil] at h26) <;> (try simp only [e, List.getElem_cons_zero] at h15) <;> simp_all [readP, partsR, part, RefD.cs, headW, lineW] <;> omega)
     ·skip
      refine AL.n ?_
      refine AL.ro (rd_loadN_bx rfl ag_23 rfl rfl (Nat.le_of_ble_eq_true rfl) rfl) ?_
      refine AL.on rfl rfl rfl (AOpB.op (op_call (fprint_c ⟨_, _, _⟩) rfl (by kernel_rfl) rfl (none) ?_))
      rintro r rfl
      refine AL.n ?_
      refine AL.ro (rd_move rfl rfl) ?_
      refine AL.ro (rd_sne rfl rfl rfl) ?_
      refine AL.r (rd_pick_f rfl rfl rfl) ?_
      refine AL.nil ?_
      change AW _ _ _ _ _
      refine AW.cd rfl (fun h44 => ?_) (fun h44 => ?_)
      ·skip
       refine AW.seq ?_
       refine AW.region ?_
       refine AL.r (rd_build rfl pl_23 ze_23 rfl rfl) ?_
       refine AL.op rfl (op_store_ rfl rfl rfl rfl rfl sz_23 ?_)
       refine AL.b ?_
       refine AL.ra ?_
       refine AL.nil ?_
       change AW _ _ _ _ _
       refine AW.ret ?_
       change ResA _ _ _ _ _
       refine res2 rfl (ResV.cells rfl rfl ag_23 (Nat.le_of_ble_eq_true rfl) rfl) rfl (ResV.tmp rfl) rfl ?_
       (obtain ⟨l, e⟩ : ∃ l, spl s = l := ⟨_, rfl⟩; rcases l with _ | ⟨p0, _ | ⟨p1, _ | ⟨p2, _ | ⟨p3, ps⟩⟩⟩⟩ <;> simp only [e, List.length_cons, List.length_nil, List.getElem_cons_zero, List.getElem_cons_succ] at hp h12 ⊢ <;> (try simp only [e, List.length_cons, List.length_nil] at h20) <;> (try simp only [e, List.length_cons, List.length_nil] at h26) <;> (try simp only [e, List.getElem_cons_zero] at h15) <;> simp_all [readP, partsR, part, RefD.cs, headW, lineW] <;> omega)
      ·skip
       refine AW.skip ?_
       change AW _ _ _ _ _
       refine AW.seq ?_
       refine AW.region ?_
       refine AL.r (rd_loadN_bx rfl ag_23 rfl rfl (Nat.le_of_ble_eq_true rfl) rfl) ?_
       refine AL.op rfl (op_store_ rfl rfl rfl rfl rfl sz_23 ?_)
       refine AL.b ?_
       refine AL.ra ?_
       refine AL.nil ?_
       change AW _ _ _ _ _
       refine AW.ret ?_
       change ResA _ _ _ _ _
       refine res2 rfl (ResV.cells rfl rfl ag_23 (Nat.le_of_ble_eq_true rfl) rfl) rfl (ResV.tmp rfl) rfl ?_
       (obtain ⟨l, e⟩ : ∃ l, spl s = l := ⟨_, rfl⟩; rcases l with _ | ⟨p0, _ | ⟨p1, _ | ⟨p2, _ | ⟨p3, ps⟩⟩⟩⟩ <;> simp only [e, List.length_cons, List.length_nil, List.getElem_cons_zero, List.getElem_cons_succ] at hp h12 ⊢ <;> (try simp only [e, List.length_cons, List.length_nil] at h20) <;> (try simp only [e, List.length_cons, List.length_nil] at h26) <;> (try simp only [e, List.getElem_cons_zero] at h15) <;> simp_all [readP, partsR, part, RefD.cs, headW, lineW] <;> omega)
    ·skip
     refine AW.skip ?_
     change AW _ _ _ _ _
     refine AW.seq ?_
     refine AW.seq ?_
     refine AW.region ?_
     refine AL.r (rd_loadN_bx rfl ag_23 rfl rfl (Nat.le_of_ble_eq_true rfl) rfl) ?_
     refine AL.op rfl (AOpB.op (op_call (place_c ⟨_, _, _⟩) rfl (by kernel_rfl) rfl (none) ?_))
     rintro r rfl
     refine AL.n ?_
     refine AL.r (rd_un rfl rfl (fun _ => rfl)) ?_
     refine AL.rm ?_
     refine AL.fk (d := 39) rfl (fun h39 => ?_) (fun h39 => ?_)
     ·skip
      refine AL.n ?_
      refine AL.rf ?_
      refine AL.rf ?_
      refine AL.rf ?_
      refine AL.rf ?_
      refine AL.r (rd_pick_t rfl rfl rfl) ?_
      refine AL.nil ?_
      change AW _ _ _ _ _
      refine AW.cond_t rfl ?_
      refine AW.seq ?_
      refine AW.region ?_
      refine AL.r (rd_build rfl pl_23 ze_23 rfl rfl) ?_
      refine AL.op rfl (op_store_ rfl rfl rfl rfl rfl sz_23 ?_)
      refine AL.b ?_
      refine AL.ra ?_
      refine AL.nil ?_
      change AW _ _ _ _ _
      refine AW.ret ?_
      change ResA _ _ _ _ _
      refine res2 rfl (ResV.cells rfl rfl ag_23 (Nat.le_of_ble_eq_true rfl) rfl) rfl (ResV.tmp rfl) rfl ?_
      (obtain ⟨l, e⟩ : ∃ l, spl s = l := ⟨_, rfl⟩; rcases l with _ | ⟨p0, _ | ⟨p1, _ | ⟨p2, _ | ⟨p3, ps⟩⟩⟩⟩ <;> simp only [e, List.length_cons, List.length_nil, List.getElem_cons_zero, List.getElem_cons_succ] at hp h12 ⊢ <;> (try simp only [e, List.length_cons, List.length_nil] at h20) <;> (try simp only [e, List.length_cons, List.length_nil] at h26) <;> (try simp only [e, List.getElem_cons_zero] at h15) <;> simp_all [readP, partsR, part, RefD.cs, headW, lineW] <;> omega)
     ·skip
      refine AL.n ?_
      refine AL.ro (rd_loadN_bx rfl ag_23 rfl rfl (Nat.le_of_ble_eq_true rfl) rfl) ?_
      refine AL.on rfl rfl rfl (AOpB.op (op_call (fprint_c ⟨_, _, _⟩) rfl (by kernel_rfl) rfl (none) ?_))
      rintro r rfl
      refine AL.n ?_
      refine AL.ro (rd_move rfl rfl) ?_
      refine AL.ro (rd_sne rfl rfl rfl) ?_
      refine AL.r (rd_pick_f rfl rfl rfl) ?_
      refine AL.nil ?_
      change AW _ _ _ _ _
      refine AW.cd rfl (fun h44 => ?_) (fun h44 => ?_)
      ·skip
       refine AW.seq ?_
       refine AW.region ?_
       refine AL.r (rd_build rfl pl_23 ze_23 rfl rfl) ?_
       refine AL.op rfl (op_store_ rfl rfl rfl rfl rfl sz_23 ?_)
       refine AL.b ?_
       refine AL.ra ?_
       refine AL.nil ?_
       change AW _ _ _ _ _
       refine AW.ret ?_
       change ResA _ _ _ _ _
       refine res2 rfl (ResV.cells rfl rfl ag_23 (Nat.le_of_ble_eq_true rfl) rfl) rfl (ResV.tmp rfl) rfl ?_
       (obtain ⟨l, e⟩ : ∃ l, spl s = l := ⟨_, rfl⟩; rcases l with _ | ⟨p0, _ | ⟨p1, _ | ⟨p2, _ | ⟨p3, ps⟩⟩⟩⟩ <;> simp only [e, List.length_cons, List.length_nil, List.getElem_cons_zero, List.getElem_cons_succ] at hp h12 ⊢ <;> (try simp only [e, List.length_cons, List.length_nil] at h20) <;> (try simp only [e, List.length_cons, List.length_nil] at h26) <;> (try simp only [e, List.getElem_cons_zero] at h15) <;> simp_all [readP, partsR, part, RefD.cs, headW, lineW] <;> omega)
      ·skip
       refine AW.skip ?_
       change AW _ _ _ _ _
       refine AW.seq ?_
       refine AW.region ?_
       refine AL.r (rd_loadN_bx rfl ag_23 rfl rfl (Nat.le_of_ble_eq_true rfl) rfl) ?_
       refine AL.op rfl (op_store_ rfl rfl rfl rfl rfl sz_23 ?_)
       refine AL.b ?_
       refine AL.ra ?_
       refine AL.nil ?_
       change AW _ _ _ _ _
       refine AW.ret ?_
       change ResA _ _ _ _ _
       refine res2 rfl (ResV.cells rfl rfl ag_23 (Nat.le_of_ble_eq_true rfl) rfl) rfl (ResV.tmp rfl) rfl ?_
       (obtain ⟨l, e⟩ : ∃ l, spl s = l := ⟨_, rfl⟩; rcases l with _ | ⟨p0, _ | ⟨p1, _ | ⟨p2, _ | ⟨p3, ps⟩⟩⟩⟩ <;> simp only [e, List.length_cons, List.length_nil, List.getElem_cons_zero, List.getElem_cons_succ] at hp h12 ⊢ <;> (try simp only [e, List.length_cons, List.length_nil] at h20) <;> (try simp only [e, List.length_cons, List.length_nil] at h26) <;> (try simp only [e, List.getElem_cons_zero] at h15) <;> simp_all [readP, partsR, part, RefD.cs, headW, lineW] <;> omega)
  ·skip
   refine AW.seq ?_
   refine AW.region ?_
   refine AL.r (rd_seq rfl rfl rfl) ?_
   refine AL.ra ?_
   refine AL.nil ?_
   change AW _ _ _ _ _
   refine AW.cd rfl (fun h15 => ?_) (fun h15 => ?_)
   ·skip
    refine AW.region ?_
    refine AL.r (rd_faddr_bx rfl fo_23_0 rfl rfl ⟨_, _, rfl⟩) ?_
    refine AL.op rfl (op_store_ rfl rfl rfl rfl rfl sz_3 ?_)
    refine AL.b ?_
    refine AL.nil ?_
    change AW _ _ _ _ _
    refine AW.seq ?_
    refine AW.seq ?_
    refine AW.region ?_
    refine AL.rm ?_
    refine AL.r (rd_len_sl rfl el_35 rfl) ?_
    refine AL.nil ?_
    change AW _ _ _ _ _
    refine AW.block ?_
    refine AW.seq ?_
    refine AW.region ?_
    refine AL.r (rd_bin rfl rfl rfl (fun _ => rfl)) ?_
    refine AL.ra ?_
    refine AL.nil ?_
    change AW _ _ _ _ _
    refine AW.cd rfl (fun h20 => ?_) (fun h20 => ?_)
    ·skip
     refine AW.region ?_
     refine AL.rm ?_
     refine AL.r (rd_iaddr_sl (n := 1) rfl el_35 rfl rfl rfl (get_mapA (by omega)) rfl) ?_
     refine AL.r (rd_load_ep rfl ag_9 rfl rfl) ?_
     refine AL.r (rd_faddr_bx rfl fo_23_2 rfl rfl ⟨_, _, rfl⟩) ?_
     refine AL.op rfl (op_store_ rfl rfl rfl rfl rfl sz_9 ?_)
     refine AL.b ?_
     refine AL.nil ?_
     change AW _ _ _ _ _
     refine AW.seq ?_
     refine AW.seq ?_
     refine AW.region ?_
     refine AL.r (rd_loadN_bx rfl ag_23 rfl rfl (Nat.le_of_ble_eq_true rfl) rfl) ?_
     refine AL.op rfl (AOpB.op (op_call (place_c ⟨_, _, _⟩) rfl (by kernel_rfl) rfl (none) ?_))
     rintro r rfl
     refine AL.n ?_
     refine AL.r (rd_un rfl rfl (fun _ => rfl)) ?_
     refine AL.rm ?_
     refine AL.fk (d := 39) rfl (fun h39 => ?_) (fun h39 => ?_)
     ·skip
      refine AL.n ?_
      refine AL.rf ?_
      refine AL.rf ?_
      refine AL.rf ?_
      refine AL.rf ?_
      refine AL.r (rd_pick_t rfl rfl rfl) ?_
      refine AL.nil ?_
      change AW _ _ _ _ _
      refine AW.cond_t rfl ?_
      refine AW.seq ?_
      refine AW.region ?_
      refine AL.r (rd_build rfl pl_23 ze_23 rfl rfl) ?_
      refine AL.op rfl (op_store_ rfl rfl rfl rfl rfl sz_23 ?_)
      refine AL.b ?_
      refine AL.ra ?_
      refine AL.nil ?_
      change AW _ _ _ _ _
      refine AW.ret ?_
      change ResA _ _ _ _ _
      refine res2 rfl (ResV.cells rfl rfl ag_23 (Nat.le_of_ble_eq_true rfl) rfl) rfl (ResV.tmp rfl) rfl ?_
      (obtain ⟨l, e⟩ : ∃ l, spl s = l := ⟨_, rfl⟩; rcases l with _ | ⟨p0, _ | ⟨p1, _ | ⟨p2, _ | ⟨p3, ps⟩⟩⟩⟩ <;> simp only [e, List.length_cons, List.length_nil, List.getElem_cons_zero, List.getElem_cons_succ] at hp h12 ⊢ <;> (try simp only [e, List.length_cons, List.length_nil] at h20) <;> (try simp only [e, List.length_cons, List.length_nil] at h26) <;> (try simp only [e, List.getElem_cons_zero] at h15) <;> simp_all [readP, partsR, part, RefD.cs, headW, lineW] <;> omega)
     ·skip
      refine AL.n ?_
      refine AL.ro (rd_loadN_bx rfl ag_23 rfl rfl (Nat.le_of_ble_eq_true rfl) rfl) ?_
      refine AL.on rfl rfl rfl (AOpB.op (op_call (fprint_c ⟨_, _, _⟩) rfl (by kernel_rfl) rfl (none) ?_))
      rintro r rfl
      refine AL.n ?_
      refine AL.ro (rd_move rfl rfl) ?_
      refine AL.ro (rd_sne rfl rfl rfl) ?_
      refine AL.r (rd_pick_f rfl rfl rfl) ?_
      refine AL.nil ?_
      change AW _ _ _ _ _
      refine AW.cd rfl (fun h44 => ?_) (fun h44 => ?_)
      ·skip
       refine AW.seq ?_
       refine AW.region ?_
       refine AL.r (rd_build rfl pl_23 ze_23 rfl rfl) ?_
       refine AL.op rfl (op_store_ rfl rfl rfl rfl rfl sz_23 ?_)
       refine AL.b ?_
       refine AL.ra ?_
       refine AL.nil ?_
       change AW _ _ _ _ _
       refine AW.ret ?_
       change ResA _ _ _ _ _
       refine res2 rfl (ResV.cells rfl rfl ag_23 (Nat.le_of_ble_eq_true rfl) rfl) rfl (ResV.tmp rfl) rfl ?_
       (obtain ⟨l, e⟩ : ∃ l, spl s = l := ⟨_, rfl⟩; rcases l with _ | ⟨p0, _ | ⟨p1, _ | ⟨p2, _ | ⟨p3, ps⟩⟩⟩⟩ <;> simp only [e, List.length_cons, List.length_nil, List.getElem_cons_zero, List.getElem_cons_succ] at hp h12 ⊢ <;> (try simp only [e, List.length_cons, List.length_nil] at h20) <;> (try simp only [e, List.length_cons, List.length_nil] at h26) <;> (try simp only [e, List.getElem_cons_zero] at h15) <;> simp_all [readP, partsR, part, RefD.cs, headW, lineW] <;> omega)
      ·skip
       refine AW.skip ?_
       change AW _ _ _ _ _
       refine AW.seq ?_
       refine AW.region ?_
       refine AL.r (rd_loadN_bx rfl ag_23 rfl rfl (Nat.le_of_ble_eq_true rfl) rfl) ?_
       refine AL.op rfl (op_store_ rfl rfl rfl rfl rfl sz_23 ?_)
       refine AL.b ?_
       refine AL.ra ?_
       refine AL.nil ?_
       change AW _ _ _ _ _
       refine AW.ret ?_
       change ResA _ _ _ _ _
       refine res2 rfl (ResV.cells rfl rfl ag_23 (Nat.le_of_ble_eq_true rfl) rfl) rfl (ResV.tmp rfl) rfl ?_
       (obtain ⟨l, e⟩ : ∃ l, spl s = l := ⟨_, rfl⟩; rcases l with _ | ⟨p0, _ | ⟨p1, _ | ⟨p2, _ | ⟨p3, ps⟩⟩⟩⟩ <;> simp only [e, List.length_cons, List.length_nil, List.getElem_cons_zero, List.getElem_cons_succ] at hp h12 ⊢ <;> (try simp only [e, List.length_cons, List.length_nil] at h20) <;> (try simp only [e, List.length_cons, List.length_nil] at h26) <;> (try simp only [e, List.getElem_cons_zero] at h15) <;> simp_all [readP, partsR, part, RefD.cs, headW, lineW] <;> omega)
    ·skip
     refine AW.seq ?_
     refine AW.region ?_
     refine AL.r (rd_bin rfl rfl rfl (fun _ => rfl)) ?_
     refine AL.ra ?_
     refine AL.nil ?_
     change AW _ _ _ _ _
     refine AW.cd rfl (fun h26 => ?_) (fun h26 => ?_)
     ·skip
      apply AW.drawS (by kernel_rfl)
      ·skip
       refine ADA.r 0 rfl (ARdP.a (rdP_move rfl rfl)) rfl ?_
       refine ADA.r 1 rfl (ARdP.a (rdP_iaddr_sl (n := 1) rfl el_35 rfl rfl rfl (get_mapA (by omega)) rfl)) rfl ?_
       refine ADA.r 2 rfl (rdA_load_ep rfl ag_9 rfl rfl) rfl ?_
       refine ADA.r 3 rfl (ARdP.a (rdP_move rfl rfl)) rfl ?_
       refine ADA.r 4 rfl (ARdP.a (rdP_iaddr_sl (n := 2) rfl el_35 rfl rfl rfl (get_mapA (by omega)) rfl)) rfl ?_
       refine ADA.r 5 rfl (rdA_load_ep rfl ag_9 rfl rfl) rfl ?_
       refine ADA.r 6 rfl (ARdP.a (rdP_faddr_bx rfl fo_23_1 rfl rfl ⟨_, _, rfl⟩)) rfl ?_
       refine ADA.b ?_
       refine ADB.mv 7 rfl (op_store_ rfl rfl rfl rfl rfl sz_9 ?_)
       refine ADB.n ?_
       refine ADB.r 8 rfl (rdP_faddr_bx rfl fo_23_2 rfl rfl ⟨_, _, rfl⟩) rfl ?_
       refine ADB.mv 9 rfl (op_store_ rfl rfl rfl rfl rfl sz_9 ?_)
       refine ADB.n ?_
       refine ADB.done (by kernel_rfl) ?_
       exact ⟨rfl, rfl⟩
      skip
      change AW _ _ _ _ _
      refine AW.seq ?_
      refine AW.seq ?_
      refine AW.region ?_
      refine AL.r (rd_loadN_bx rfl ag_23 rfl rfl (Nat.le_of_ble_eq_true rfl) rfl) ?_
      refine AL.op rfl (AOpB.op (op_call (place_c ⟨_, _, _⟩) rfl (by kernel_rfl) rfl (none) ?_))
      rintro r rfl
      refine AL.n ?_
      refine AL.r (rd_un rfl rfl (fun _ => rfl)) ?_
      refine AL.rm ?_
      refine AL.fk (d := 39) rfl (fun h39 => ?_) (fun h39 => ?_)
      ·skip
       refine AL.n ?_
       refine AL.rf ?_
       refine AL.rf ?_
       refine AL.rf ?_
       refine AL.rf ?_
       refine AL.r (rd_pick_t rfl rfl rfl) ?_
       refine AL.nil ?_
       change AW _ _ _ _ _
       refine AW.cond_t rfl ?_
       refine AW.seq ?_
       refine AW.region ?_
       refine AL.r (rd_build rfl pl_23 ze_23 rfl rfl) ?_
       refine AL.op rfl (op_store_ rfl rfl rfl rfl rfl sz_23 ?_)
       refine AL.b ?_
       refine AL.ra ?_
       refine AL.nil ?_
       change AW _ _ _ _ _
       refine AW.ret ?_
       change ResA _ _ _ _ _
       refine res2 rfl (ResV.cells rfl rfl ag_23 (Nat.le_of_ble_eq_true rfl) rfl) rfl (ResV.tmp rfl) rfl ?_
       (obtain ⟨l, e⟩ : ∃ l, spl s = l := ⟨_, rfl⟩; rcases l with _ | ⟨p0, _ | ⟨p1, _ | ⟨p2, _ | ⟨p3, ps⟩⟩⟩⟩ <;> simp only [e, List.length_cons, List.length_nil, List.getElem_cons_zero, List.getElem_cons_succ] at hp h12 ⊢ <;> (try simp only [e, List.length_cons, List.length_nil] at h20) <;> (try simp only [e, List.length_cons, List.length_nil] at h26) <;> (try simp only [e, List.getElem_cons_zero] at h15) <;> simp_all [readP, partsR, part, RefD.cs, headW, lineW] <;> omega)
      ·skip
       refine AL.n ?_
       refine AL.ro (rd_loadN_bx rfl ag_23 rfl rfl (Nat.le_of_ble_eq_true rfl) rfl) ?_
       refine AL.on rfl rfl rfl (AOpB.op (op_call (fprint_c ⟨_, _, _⟩) rfl (by kernel_rfl) rfl (none) ?_))
       rintro r rfl
       refine AL.n ?_
       refine AL.ro (rd_move rfl rfl) ?_
       refine AL.ro (rd_sne rfl rfl rfl) ?_
       refine AL.r (rd_pick_f rfl rfl rfl) ?_
       refine AL.nil ?_
       change AW _ _ _ _ _
       refine AW.cd rfl (fun h44 => ?_) (fun h44 => ?_)
       ·skip
        refine AW.seq ?_
        refine AW.region ?_
        refine AL.r (rd_build rfl pl_23 ze_23 rfl rfl) ?_
        refine AL.op rfl (op_store_ rfl rfl rfl rfl rfl sz_23 ?_)
        refine AL.b ?_
        refine AL.ra ?_
        refine AL.nil ?_
        change AW _ _ _ _ _
        refine AW.ret ?_
        change ResA _ _ _ _ _
        refine res2 rfl (ResV.cells rfl rfl ag_23 (Nat.le_of_ble_eq_true rfl) rfl) rfl (ResV.tmp rfl) rfl ?_
        (obtain ⟨l, e⟩ : ∃ l, spl s = l := ⟨_, rfl⟩; rcases l with _ | ⟨p0, _ | ⟨p1, _ | ⟨p2, _ | ⟨p3, ps⟩⟩⟩⟩ <;> simp only [e, List.length_cons, List.length_nil, List.getElem_cons_zero, List.getElem_cons_succ] at hp h12 ⊢ <;> (try simp only [e, List.length_cons, List.length_nil] at h20) <;> (try simp only [e, List.length_cons, List.length_nil] at h26) <;> (try simp only [e, List.getElem_cons_zero] at h15) <;> simp_all [readP, partsR, part, RefD.cs, headW, lineW] <;> omega)
       ·skip
        refine AW.skip ?_
        change AW _ _ _ _ _
        refine AW.seq ?_
        refine AW.region ?_
        refine AL.r (rd_loadN_bx rfl ag_23 rfl rfl (Nat.le_of_ble_eq_true rfl) rfl) ?_
        refine AL.op rfl (op_store_ rfl rfl rfl rfl rfl sz_23 ?_)
        refine AL.b ?_
        refine AL.ra ?_
        refine AL.nil ?_
        change AW _ _ _ _ _
        refine AW.ret ?_
        change ResA _ _ _ _ _
        refine res2 rfl (ResV.cells rfl rfl ag_23 (Nat.le_of_ble_eq_true rfl) rfl) rfl (ResV.tmp rfl) rfl ?_
        (obtain ⟨l, e⟩ : ∃ l, spl s = l := ⟨_, rfl⟩; rcases l with _ | ⟨p0, _ | ⟨p1, _ | ⟨p2, _ | ⟨p3, ps⟩⟩⟩⟩ <;> simp only [e, List.length_cons, List.length_nil, List.getElem_cons_zero, List.getElem_cons_succ] at hp h12 ⊢ <;> (try simp only [e, List.length_cons, List.length_nil] at h20) <;> (try simp only [e, List.length_cons, List.length_nil] at h26) <;> (try simp only [e, List.getElem_cons_zero] at h15) <;> simp_all [readP, partsR, part, RefD.cs, headW, lineW] <;> omega)
     ·skip
      refine AW.skip ?_
      change AW _ _ _ _ _
      refine AW.seq ?_
      refine AW.seq ?_
      refine AW.region ?_
      refine AL.r (rd_loadN_bx rfl ag_23 rfl rfl (Nat.le_of_ble_eq_true rfl) rfl) ?_
      refine AL.op rfl (AOpB.op (op_call (place_c ⟨_, _, _⟩) rfl (by kernel_rfl) rfl (none) ?_))
      rintro r rfl
      refine AL.n ?_
      refine AL.r (rd_un rfl rfl (fun _ => rfl)) ?_
      refine AL.rm ?_
      refine AL.fk (d := 39) rfl (fun h39 => ?_) (fun h39 => ?_)
      ·skip
       refine AL.n ?_
       refine AL.rf ?_
       refine AL.rf ?_
       refine AL.rf ?_
       refine AL.rf ?_
       refine AL.r (rd_pick_t rfl rfl rfl) ?_
       refine AL.nil ?_
       change AW _ _ _ _ _
       refine AW.cond_t rfl ?_
       refine AW.seq ?_
       refine AW.region ?_
       refine AL.r (rd_build rfl pl_23 ze_23 rfl rfl) ?_
       refine AL.op rfl (op_store_ rfl rfl rfl rfl rfl sz_23 ?_)
       refine AL.b ?_
       refine AL.ra ?_
       refine AL.nil ?_
       change AW _ _ _ _ _
       refine AW.ret ?_
       change ResA _ _ _ _ _
       refine res2 rfl (ResV.cells rfl rfl ag_23 (Nat.le_of_ble_eq_true rfl) rfl) rfl (ResV.tmp rfl) rfl ?_
       (obtain ⟨l, e⟩ : ∃ l, spl s = l := ⟨_, rfl⟩; rcases l with _ | ⟨p0, _ | ⟨p1, _ | ⟨p2, _ | ⟨p3, ps⟩⟩⟩⟩ <;> simp only [e, List.length_cons, List.length_nil, List.getElem_cons_zero, List.getElem_cons_succ] at hp h12 ⊢ <;> (try simp only [e, List.length_cons, List.length_nil] at h20) <;> (try simp only [e, List.length_cons, List.length_nil] at h26) <;> (try simp only [e, List.getElem_cons_zero] at h15) <;> simp_all [readP, partsR, part, RefD.cs, headW, lineW] <;> omega)
      ·skip
       refine AL.n ?_
       refine AL.ro (rd_loadN_bx rfl ag_23 rfl rfl (Nat.le_of_ble_eq_true rfl) rfl) ?_
       refine AL.on rfl rfl rfl (AOpB.op (op_call (fprint_c ⟨_, _, _⟩) rfl (by kernel_rfl) rfl (none) ?_))
       rintro r rfl
       refine AL.n ?_
       refine AL.ro (rd_move rfl rfl) ?_
       refine AL.ro (rd_sne rfl rfl rfl) ?_
       refine AL.r (rd_pick_f rfl rfl rfl) ?_
       refine AL.nil ?_
       change AW _ _ _ _ _
       refine AW.cd rfl (fun h44 => ?_) (fun h44 => ?_)
       ·skip
        refine AW.seq ?_
        refine AW.region ?_
        refine AL.r (rd_build rfl pl_23 ze_23 rfl rfl) ?_
        refine AL.op rfl (op_store_ rfl rfl rfl rfl rfl sz_23 ?_)
        refine AL.b ?_
        refine AL.ra ?_
        refine AL.nil ?_
        change AW _ _ _ _ _
        refine AW.ret ?_
        change ResA _ _ _ _ _
        refine res2 rfl (ResV.cells rfl rfl ag_23 (Nat.le_of_ble_eq_true rfl) rfl) rfl (ResV.tmp rfl) rfl ?_
        (obtain ⟨l, e⟩ : ∃ l, spl s = l := ⟨_, rfl⟩; rcases l with _ | ⟨p0, _ | ⟨p1, _ | ⟨p2, _ | ⟨p3, ps⟩⟩⟩⟩ <;> simp only [e, List.length_cons, List.length_nil, List.getElem_cons_zero, List.getElem_cons_succ] at hp h12 ⊢ <;> (try simp only [e, List.length_cons, List.length_nil] at h20) <;> (try simp only [e, List.length_cons, List.length_nil] at h26) <;> (try simp only [e, List.getElem_cons_zero] at h15) <;> simp_all [readP, partsR, part, RefD.cs, headW, lineW] <;> omega)
       ·skip
        refine AW.skip ?_
        change AW _ _ _ _ _
        refine AW.seq ?_
        refine AW.region ?_
        refine AL.r (rd_loadN_bx rfl ag_23 rfl rfl (Nat.le_of_ble_eq_true rfl) rfl) ?_
        refine AL.op rfl (op_store_ rfl rfl rfl rfl rfl sz_23 ?_)
        refine AL.b ?_
        refine AL.ra ?_
        refine AL.nil ?_
        change AW _ _ _ _ _
        refine AW.ret ?_
        change ResA _ _ _ _ _
        refine res2 rfl (ResV.cells rfl rfl ag_23 (Nat.le_of_ble_eq_true rfl) rfl) rfl (ResV.tmp rfl) rfl ?_
        (obtain ⟨l, e⟩ : ∃ l, spl s = l := ⟨_, rfl⟩; rcases l with _ | ⟨p0, _ | ⟨p1, _ | ⟨p2, _ | ⟨p3, ps⟩⟩⟩⟩ <;> simp only [e, List.length_cons, List.length_nil, List.getElem_cons_zero, List.getElem_cons_succ] at hp h12 ⊢ <;> (try simp only [e, List.length_cons, List.length_nil] at h20) <;> (try simp only [e, List.length_cons, List.length_nil] at h26) <;> (try simp only [e, List.getElem_cons_zero] at h15) <;> simp_all [readP, partsR, part, RefD.cs, headW, lineW] <;> omega)
   ·skip
    refine AW.seq ?_
    refine AW.region ?_
    refine AL.r (rd_build rfl pl_23 ze_23 rfl rfl) ?_
    refine AL.op rfl (op_store_ rfl rfl rfl rfl rfl sz_23 ?_)
    refine AL.b ?_
    refine AL.ra ?_
    refine AL.nil ?_
    change AW _ _ _ _ _
    refine AW.ret ?_
    change ResA _ _ _ _ _
    refine res2 rfl (ResV.cells rfl rfl ag_23 (Nat.le_of_ble_eq_true rfl) rfl) rfl (ResV.tmp rfl) rfl ?_
    (obtain ⟨l, e⟩ : ∃ l, spl s = l := ⟨_, rfl⟩; rcases l with _ | ⟨p0, _ | ⟨p1, _ | ⟨p2, _ | ⟨p3, ps⟩⟩⟩⟩ <;> simp only [e, List.length_cons, List.length_nil, List.getElem_cons_zero, List.getElem_cons_succ] at hp h12 ⊢ <;> (try simp only [e, List.length_cons, List.length_nil] at h20) <;> (try simp only [e, List.length_cons, List.length_nil] at h26) <;> (try simp only [e, List.getElem_cons_zero] at h15) <;> simp_all [readP, partsR, part, RefD.cs, headW, lineW] <;> omega)
theorem readP_lbq : readP [108, 105, 110, 101, 46, 98, 111, 120, 46, 113, 116, 121] = (⟨1, [98, 111, 120], [113, 116, 121]⟩, 0) := by decide +kernel
theorem fread_lbq : AC Tryd.prog 9 [AS [108, 105, 110, 101, 46, 98, 111, 120, 46, 113, 116, 121]] (fun x => x = .s (.tu [.ag [AI 1, AS [98, 111, 120], AS [113, 116, 121]], AI 0])) :=
  (fread_c _ (by decide)).mono fun r h => by rw [readP_lbq] at h; exact h
theorem awake_c : AC Tryd.prog 7 [] (fun r => r = .s (AB true)) := by
  refine AC.of' 18 1 Tryd.func7 rfl ?_
  change AW _ _ _ _ [TK.mk 0 .off]
  refine AW.seq ?_
  refine AW.region ?_
  refine AL.ra ?_
  refine AL.nil ?_
  change AW _ _ _ _ _
  refine AW.seq ?_
  refine AW.region ?_
  refine AL.op rfl (AOpB.op (op_call (fread_lbq) rfl (by kernel_rfl) rfl (none) ?_))
  rintro r rfl
  refine AL.n ?_
  refine AL.rm ?_
  refine AL.r (rd_extract rfl rfl rfl) ?_
  refine AL.r (rd_extract rfl rfl rfl) ?_
  refine AL.op rfl (AOpB.op (op_alloc 0 rfl ze_23 rfl ?_))
  refine AL.n ?_
  refine AL.op rfl (op_store_ rfl rfl rfl rfl rfl sz_23 ?_)
  refine AL.n ?_
  refine AL.ra ?_
  refine AL.nil ?_
  change AW _ _ _ _ _
  refine AW.seq ?_
  refine AW.region ?_
  refine AL.r (rd_loadN_bx rfl ag_23 rfl rfl (Nat.le_of_ble_eq_true rfl) rfl) ?_
  refine AL.r (rd_build rfl pl_23 ze_23 rfl rfl) ?_
  refine AL.r (rd_eq_Ref rfl rfl rfl) ?_
  refine AL.rm ?_
  refine AL.fk (d := 10) rfl (fun h10 => ?_) (fun h10 => ?_)
  ·skip
   refine AL.n ?_
   refine AL.ro (rd_move rfl rfl) ?_
   refine AL.ro (rd_bin rfl rfl rfl (fun _ => rfl)) ?_
   refine AL.r (rd_pick_t rfl rfl rfl) ?_
   refine AL.rm ?_
   refine AL.fk (d := 14) rfl (fun h14 => ?_) (fun h14 => ?_)
   ·skip
    refine AL.n ?_
    refine AL.ro (rd_loadN_bx rfl ag_23 rfl rfl (Nat.le_of_ble_eq_true rfl) rfl) ?_
    refine AL.on rfl rfl rfl (AOpB.op (op_call (place_c ⟨1, [98, 111, 120], [113, 116, 121]⟩) rfl (by kernel_rfl) rfl (none) ?_))
    rintro r rfl
    refine AL.n ?_
    refine AL.r (rd_pick_t rfl rfl rfl) ?_
    refine AL.ra ?_
    refine AL.nil ?_
    change AW _ _ _ _ _
    refine AW.ret ?_
    change ResA _ _ _ _ _
    refine res1 rfl (ResV.tmp rfl) rfl ?_
    first | rfl | (simp_all; done) | (have : placeB ⟨1, [98, 111, 120], [113, 116, 121]⟩ = true := by decide +kernel; simp_all)
   ·skip
    refine AL.n ?_
    refine AL.rf ?_
    refine AL.rf ?_
    refine AL.r (rd_pick_f rfl rfl rfl) ?_
    refine AL.ra ?_
    refine AL.nil ?_
    change AW _ _ _ _ _
    refine AW.ret ?_
    change ResA _ _ _ _ _
    refine res1 rfl (ResV.tmp rfl) rfl ?_
    first | rfl | (simp_all; done) | (have : placeB ⟨1, [98, 111, 120], [113, 116, 121]⟩ = true := by decide +kernel; simp_all)
  ·skip
   refine AL.n ?_
   refine AL.rf ?_
   refine AL.rf ?_
   refine AL.r (rd_pick_f rfl rfl rfl) ?_
   refine AL.rm ?_
   refine AL.rf ?_
   refine AL.rf ?_
   refine AL.r (rd_pick_f rfl rfl rfl) ?_
   refine AL.ra ?_
   refine AL.nil ?_
   change AW _ _ _ _ _
   refine AW.ret ?_
   change ResA _ _ _ _ _
   refine res1 rfl (ResV.tmp rfl) rfl ?_
   first | rfl | (simp_all; done) | (have : placeB ⟨1, [98, 111, 120], [113, 116, 121]⟩ = true := by decide +kernel; simp_all)
end Go.Proofs.YtpkjlmaphhileaaDoor
