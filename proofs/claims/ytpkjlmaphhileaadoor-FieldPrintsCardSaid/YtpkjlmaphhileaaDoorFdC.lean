/- The document's reading of a print, walked. The text is of at most 1000 bytes. -/
import Derived.Test.YtpkjlmaphhileaaDoorFdB
namespace Go.Proofs.YtpkjlmaphhileaaDoor
set_option linter.unusedSimpArgs false
set_option linter.unusedVariables false
set_option maxRecDepth 100000
open Go.RowKit

theorem rd_early {s : Bytes} (h : s.length < 6 ∨ (s.take 5 ≠ [104, 101, 97, 100, 46] ∧ s.take 5 ≠ [108, 105, 110, 101, 46])) : readP s = (⟨0, [], []⟩, 4) :=
  readP_no fun r hr e => by
    subst e
    obtain ⟨h1, h2⟩ := print_front hr
    rcases h with h | h
    · omega
    · rcases h2 with h2 | h2
      · exact h.1 h2.1
      · exact h.2 h2.1
theorem head_at {s : Bytes} {a b c d e : UInt8} (h : s.take 5 = [a, b, c, d, e]) : s.getD 0 0 = a := by
  have : (s.take 5)[0]? = some a := by rw [h]; rfl
  rw [List.getElem?_take_of_lt (by omega)] at this
  rw [List.getD_eq_getElem?_getD, this]; rfl
theorem rd_bad {s : Bytes} {sc : Int} {k : Nat} (hk : 5 + k = s.length) (hsc : sc = if s.getD 0 0 = 108 then 1 else 0) (h : ¬ (placeB ⟨sc, (scn s k).1, (scn s k).2⟩ = true ∧ printB ⟨sc, (scn s k).1, (scn s k).2⟩ = s)) : readP s = (⟨0, [], []⟩, 4) :=
  readP_no fun r hr e => by
    subst e
    obtain ⟨h1, h2⟩ := print_front hr
    have e := scn_print hr
    rw [show (printB r).length - 5 = k by omega] at e
    have es : sc = r.scope := by
      rw [hsc]
      rcases h2 with ⟨h2, h3⟩ | ⟨h2, h3⟩
      · rw [head_at h2, h3]; decide
      · rw [head_at h2, h3]; decide
    rw [e, es] at h
    exact h ⟨hr, rfl⟩
theorem rd_ok {s : Bytes} {z : RefD} (h : placeB z = true) (h2 : printB z = s) : readP s = (z, 0) := by rw [← h2]; exact readP_yes h
theorem getD_nat {s : Bytes} {i c : Nat} (hi : i < s.length) (hc : c < 256) : ((s[i]'hi).toNat : Int) = (c : Nat) ↔ s.getD i 0 = UInt8.ofNat c := by
  rw [List.getD_eq_getElem?_getD, List.getElem?_eq_getElem hi, Option.getD_some]
  constructor
  · intro h
    apply UInt8.toNat_inj.1
    rw [UInt8.toNat_ofNat']
    omega
  · intro h
    rw [h, UInt8.toNat_ofNat']
    omega
set_option maxHeartbeats 1000000 in
theorem rread_c (s : Bytes) (hs : s.length ≤ 1000) : AC Tryd.prog 10 [AS s] (fun x => x = .s (.tu [(readP s).1.av, AB (decide ((readP s).2 = 0))])) := by
  refine AC.of' 61 2 Tryd.func10 rfl ?_
  change AW _ _ _ _ [TK.mk 0 .off, TK.mk 0 .off]
  refine AW.seq ?_
  refine AW.region ?_
  refine AL.op rfl (AOpB.op (op_alloc 0 rfl ze_23 rfl ?_))
  refine AL.n ?_
  refine AL.ra ?_
  refine AL.nil ?_
  change AW _ _ _ _ _
  refine AW.seq ?_
  refine AW.seq ?_
  refine AW.region ?_
  refine AL.rm ?_
  refine AL.r (rd_len_str rfl str_9 rfl) ?_
  refine AL.r (rd_bin rfl rfl rfl (fun _ => rfl)) ?_
  refine AL.rm ?_
  refine AL.fk (d := 9) rfl (fun h9 => ?_) (fun h9 => ?_)
  ·skip
   refine AL.n ?_
   refine AL.rf ?_
   refine AL.rf ?_
   refine AL.rf ?_
   refine AL.rf ?_
   refine AL.ru ?_
   refine AL.ru ?_
   refine AL.ru ?_
   refine AL.rf ?_
   refine AL.r (rd_pick_t rfl rfl rfl) ?_
   refine AL.nil ?_
   change AW _ _ _ _ _
   refine AW.cond_t rfl ?_
   refine AW.seq ?_
   refine AW.region ?_
   refine AL.r (rd_build rfl pl_23 ze_23 rfl rfl) ?_
   refine AL.op rfl (op_store_ rfl rfl rfl rfl rfl sz_23 ?_)
   refine AL.b ?_
   refine AL.ra ?_
   refine AL.nil ?_
   change AW _ _ _ _ _
   refine AW.ret ?_
   change ResA _ _ _ _ _
   refine res2 rfl (ResV.cells rfl rfl ag_23 (Nat.le_of_ble_eq_true rfl) rfl) rfl (ResV.tmp rfl) rfl ?_
   (rw [rd_early (by by_cases q : s.length < 6 <;> simp_all <;> omega)]; rfl)
  ·skip
   refine AL.n ?_
   refine AL.ro (rd_move rfl rfl) ?_
   refine AL.ro (rd_slice_str rfl str_9 rfl (n := 5) rfl ⟨_, _, rfl, rfl⟩ (by omega) (by omega)) ?_
   refine AL.ro (rd_sne rfl rfl rfl) ?_
   refine AL.ro (rd_move rfl rfl) ?_
   refine AL.fk (d := 13) rfl (fun h13 => ?_) (fun h13 => ?_)
   ·skip
    refine AL.n ?_
    refine AL.ro (rd_move rfl rfl) ?_
    refine AL.ro (rd_slice_str rfl str_9 rfl (n := 5) rfl ⟨_, _, rfl, rfl⟩ (by omega) (by omega)) ?_
    refine AL.ro (rd_sne rfl rfl rfl) ?_
    refine AL.ro (rd_pick_t rfl rfl rfl) ?_
    refine AL.r (rd_pick_f rfl rfl rfl) ?_
    refine AL.nil ?_
    change AW _ _ _ _ _
    refine AW.cd rfl (fun h18 => ?_) (fun h18 => ?_)
    ·skip
     refine AW.seq ?_
     refine AW.region ?_
     refine AL.r (rd_build rfl pl_23 ze_23 rfl rfl) ?_
     refine AL.op rfl (op_store_ rfl rfl rfl rfl rfl sz_23 ?_)
     refine AL.b ?_
     refine AL.ra ?_
     refine AL.nil ?_
     change AW _ _ _ _ _
     refine AW.ret ?_
     change ResA _ _ _ _ _
     refine res2 rfl (ResV.cells rfl rfl ag_23 (Nat.le_of_ble_eq_true rfl) rfl) rfl (ResV.tmp rfl) rfl ?_
     (rw [rd_early (by by_cases q : s.length < 6 <;> simp_all <;> omega)]; rfl)
    ·skip
     refine AW.skip ?_
     change AW _ _ _ _ _
     refine AW.seq ?_
     refine AW.region ?_
     refine AL.rm ?_
     refine AL.r (rd_slice_str rfl str_9 rfl (m := 5) ⟨_, _, rfl, rfl⟩ rfl (by omega) (by omega)) ?_
     refine AL.r (rd_build rfl pl_23 ze_23 rfl rfl) ?_
     refine AL.op rfl (AOpB.op (op_alloc 1 rfl ze_23 rfl ?_))
     refine AL.n ?_
     refine AL.op rfl (op_store_ rfl rfl rfl rfl rfl sz_23 ?_)
     refine AL.b ?_
     refine AL.nil ?_
     change AW _ _ _ _ _
     refine AW.seq ?_
     refine AW.seq ?_
     refine AW.region ?_
     refine AL.rm ?_
     refine AL.r (rd_index_str rfl str_9 rfl rfl (show (0 : Int) = ((0 : Nat) : Int) from rfl) (List.getElem?_eq_getElem (show 0 < s.length by omega))) ?_
     have hz := getD_nat (s := s) (i := 0) (c := 108) (by omega) (by decide)
     refine AL.r (rd_bin rfl rfl rfl (fun _ => rfl)) ?_
     refine AL.nil ?_
     change AW _ _ _ _ _
     refine AW.cd rfl (fun h25 => ?_) (fun h25 => ?_)
     ·skip
      refine AW.region ?_
      refine AL.r (rd_faddr_bx rfl fo_23_0 rfl rfl ⟨_, _, rfl⟩) ?_
      refine AL.op rfl (op_store_ rfl rfl rfl rfl rfl sz_3 ?_)
      refine AL.b ?_
      refine AL.nil ?_
      change AW _ _ _ _ _
      refine AW.seq ?_
      refine AW.seq ?_
      refine AW.region ?_
      refine AL.ra ?_
      refine AL.nil ?_
      change AW _ _ _ _ _
      refine AW.block ?_
      refine AW.loopM (ι := Nat) [27, 28, 29, 30, 31, 32, 33, 34, 35, 36, 37, 38, 39, 40, 41, 42, 43, 44, 45, 46, 47, 48, 49, 50] (fun k => [(5, AI ((5 + k : Nat) : Int))]) [] (fun k => [(1, ⟨1, .box 23 [AI 1, AS (scn s k).1, AS (scn s k).2]⟩)]) (fun k => 5 + k ≤ s.length) (fun k => s.length - (5 + k)) 0 (by omega) (by simp only [anys, upds, offs, List.set_cons_zero, List.set_cons_succ]; repeat (first | exact Wk.nil | refine Wk.same ?_ | refine Wk.any ?_)) (by simp only [anys, upds, offs, List.set_cons_zero, List.set_cons_succ]; repeat (first | exact Sk.nil _ | refine Sk.same _ ?_ | refine Sk.scr _ (by decide) ?_)) ?_
      rintro k gs hJ
      refine AW.norm (by simp only [anys, upds, offs, List.set_cons_zero, List.set_cons_succ]; rfl) (by (try simp only [anys, upds, offs, List.set_cons_zero, List.set_cons_succ]); (try rfl)) ?_
      refine AW.seq ?_
      refine AW.seq ?_
      refine AW.region ?_
      refine AL.rm ?_
      refine AL.rm ?_
      refine AL.r (rd_len_str rfl str_9 rfl) ?_
      refine AL.r (rd_bin rfl rfl rfl (fun _ => rfl)) ?_
      refine AL.nil ?_
      change AW _ _ _ _ _
      refine AW.cd rfl (fun h30 => ?_) (fun h30 => ?_)
      ·skip
       refine AW.skip ?_
       change AW _ _ _ _ _
       refine AW.seq ?_
       refine AW.block ?_
       refine AW.seq ?_
       refine AW.region ?_
       have hq := getD_nat (s := s) (i := 5 + k) (c := 46) (by omega) (by decide)
       refine AL.rm ?_
       refine AL.rm ?_
       refine AL.r (rd_index_str rfl str_9 rfl rfl (rfl) (List.getElem?_eq_getElem (by omega))) ?_
       refine AL.r (rd_bin rfl rfl rfl (fun _ => rfl)) ?_
       refine AL.rm ?_
       refine AL.fk (d := 37) rfl (fun h37 => ?_) (fun h37 => ?_)
       ·skip
        refine AL.n ?_
        refine AL.ro (rd_faddr_bx rfl fo_23_1 rfl rfl ⟨_, _, rfl⟩) ?_
        refine AL.ro (rd_load_bx rfl ag_9 rfl rfl rfl) ?_
        refine AL.ro (rd_seq rfl rfl rfl) ?_
        refine AL.r (rd_pick_t rfl rfl rfl) ?_
        refine AL.nil ?_
        change AW _ _ _ _ _
        refine AW.cd rfl (fun h41 => ?_) (fun h41 => ?_)
        ·skip
         refine AW.seq ?_
         refine AW.region ?_
         refine AL.rm ?_
         refine AL.rm ?_
         refine AL.r (rd_slice_str rfl str_9 rfl (m := 5) (n := 5 + k) ⟨_, _, rfl, rfl⟩ ⟨_, _, rfl, rfl⟩ (by omega) (by omega)) ?_
         refine AL.r (rd_faddr_bx rfl fo_23_1 rfl rfl ⟨_, _, rfl⟩) ?_
         refine AL.op rfl (op_store_ rfl rfl rfl rfl rfl sz_9 ?_)
         refine AL.b ?_
         refine AL.nil ?_
         change AW _ _ _ _ _
         refine AW.region ?_
         refine AL.rm ?_
         refine AL.rm ?_
         refine AL.r (rd_arith_add rfl rfl rfl (by first | exact IntWalk.i64_in _ (by omega) | rfl)) ?_
         refine AL.r (rd_slice_str rfl str_9 rfl (m := 5 + k + 1) ⟨_, _, rfl, rfl⟩ rfl (by omega) (by omega)) ?_
         refine AL.r (rd_faddr_bx rfl fo_23_2 rfl rfl ⟨_, _, rfl⟩) ?_
         refine AL.op rfl (op_store_ rfl rfl rfl rfl rfl sz_9 ?_)
         refine AL.b ?_
         refine AL.nil ?_
         change AW _ _ _ _ _
         refine AW.region ?_
         refine AL.rm ?_
         refine AL.r (rd_arith_add rfl rfl rfl (by first | exact IntWalk.i64_in _ (by omega) | rfl)) ?_
         refine AL.ra ?_
         refine AL.nil ?_
         refine ⟨k + 1, by omega, by first | omega | (simp only []; omega), ?_, ?_⟩
         ·simp only [anys, upds, offs, List.set_cons_zero, List.set_cons_succ]; repeat (first | exact Wk.nil | refine Wk.same ?_ | refine Wk.any ?_)
         ·simp only [anys, upds, offs, List.set_cons_zero, List.set_cons_succ]; repeat (first | exact Sk.nil _ | refine Sk.same _ ?_ | refine Sk.scr _ (by decide) ?_ | refine Sk.eq _ (by (simp_all [scn])) ?_)
        ·skip
         refine AW.skip ?_
         change AW _ _ _ _ _
         refine AW.region ?_
         refine AL.rm ?_
         refine AL.r (rd_arith_add rfl rfl rfl (by first | exact IntWalk.i64_in _ (by omega) | rfl)) ?_
         refine AL.ra ?_
         refine AL.nil ?_
         refine ⟨k + 1, by omega, by first | omega | (simp only []; omega), ?_, ?_⟩
         ·simp only [anys, upds, offs, List.set_cons_zero, List.set_cons_succ]; repeat (first | exact Wk.nil | refine Wk.same ?_ | refine Wk.any ?_)
         ·simp only [anys, upds, offs, List.set_cons_zero, List.set_cons_succ]; repeat (first | exact Sk.nil _ | refine Sk.same _ ?_ | refine Sk.scr _ (by decide) ?_ | refine Sk.eq _ (by (simp_all [scn])) ?_)
       ·skip
        refine AL.n ?_
        refine AL.rf ?_
        refine AL.rf ?_
        refine AL.rf ?_
        refine AL.r (rd_pick_f rfl rfl rfl) ?_
        refine AL.nil ?_
        change AW _ _ _ _ _
        refine AW.cond_f rfl ?_
        refine AW.skip ?_
        change AW _ _ _ _ _
        refine AW.region ?_
        refine AL.rm ?_
        refine AL.r (rd_arith_add rfl rfl rfl (by first | exact IntWalk.i64_in _ (by omega) | rfl)) ?_
        refine AL.ra ?_
        refine AL.nil ?_
        refine ⟨k + 1, by omega, by first | omega | (simp only []; omega), ?_, ?_⟩
        ·simp only [anys, upds, offs, List.set_cons_zero, List.set_cons_succ]; repeat (first | exact Wk.nil | refine Wk.same ?_ | refine Wk.any ?_)
        ·simp only [anys, upds, offs, List.set_cons_zero, List.set_cons_succ]; repeat (first | exact Sk.nil _ | refine Sk.same _ ?_ | refine Sk.scr _ (by decide) ?_ | refine Sk.eq _ (by (simp_all [scn])) ?_)
      ·skip
       refine AW.exit ?_
       change AW _ _ _ _ _
       refine AW.seq ?_
       refine AW.seq ?_
       refine AW.region ?_
       refine AL.r (rd_loadN_bx rfl ag_23 rfl rfl (Nat.le_of_ble_eq_true rfl) rfl) ?_
       refine AL.op rfl (AOpB.op (op_call (rplace_c ⟨_, _, _⟩) rfl (by kernel_rfl) rfl (none) ?_))
       rintro r rfl
       refine AL.n ?_
       refine AL.r (rd_un rfl rfl (fun _ => rfl)) ?_
       refine AL.rm ?_
       refine AL.fk (d := 54) rfl (fun h54 => ?_) (fun h54 => ?_)
       ·skip
        refine AL.n ?_
        refine AL.rf ?_
        refine AL.rf ?_
        refine AL.rf ?_
        refine AL.rf ?_
        refine AL.r (rd_pick_t rfl rfl rfl) ?_
        refine AL.nil ?_
        change AW _ _ _ _ _
        refine AW.cond_t rfl ?_
        refine AW.seq ?_
        refine AW.region ?_
        refine AL.r (rd_build rfl pl_23 ze_23 rfl rfl) ?_
        refine AL.op rfl (op_store_ rfl rfl rfl rfl rfl sz_23 ?_)
        refine AL.b ?_
        refine AL.ra ?_
        refine AL.nil ?_
        change AW _ _ _ _ _
        refine AW.ret ?_
        change ResA _ _ _ _ _
        refine res2 rfl (ResV.cells rfl rfl ag_23 (Nat.le_of_ble_eq_true rfl) rfl) rfl (ResV.tmp rfl) rfl ?_
        (rw [rd_bad (sc := if s.getD 0 0 = 108 then 1 else 0) (k := k) (by omega) rfl (by simp_all)]; rfl)
       ·skip
        refine AL.n ?_
        refine AL.ro (rd_loadN_bx rfl ag_23 rfl rfl (Nat.le_of_ble_eq_true rfl) rfl) ?_
        refine AL.on rfl rfl rfl (AOpB.op (op_call (rprint_c ⟨_, _, _⟩) rfl (by kernel_rfl) rfl (none) ?_))
        rintro r rfl
        refine AL.n ?_
        refine AL.ro (rd_move rfl rfl) ?_
        refine AL.ro (rd_sne rfl rfl rfl) ?_
        refine AL.r (rd_pick_f rfl rfl rfl) ?_
        refine AL.nil ?_
        change AW _ _ _ _ _
        refine AW.cd rfl (fun h59 => ?_) (fun h59 => ?_)
        ·skip
         refine AW.seq ?_
         refine AW.region ?_
         refine AL.r (rd_build rfl pl_23 ze_23 rfl rfl) ?_
         refine AL.op rfl (op_store_ rfl rfl rfl rfl rfl sz_23 ?_)
         refine AL.b ?_
         refine AL.ra ?_
         refine AL.nil ?_
         change AW _ _ _ _ _
         refine AW.ret ?_
         change ResA _ _ _ _ _
         refine res2 rfl (ResV.cells rfl rfl ag_23 (Nat.le_of_ble_eq_true rfl) rfl) rfl (ResV.tmp rfl) rfl ?_
         (rw [rd_bad (sc := if s.getD 0 0 = 108 then 1 else 0) (k := k) (by omega) rfl (by simp_all)]; rfl)
        ·skip
         refine AW.skip ?_
         change AW _ _ _ _ _
         refine AW.seq ?_
         refine AW.region ?_
         refine AL.r (rd_loadN_bx rfl ag_23 rfl rfl (Nat.le_of_ble_eq_true rfl) rfl) ?_
         refine AL.op rfl (op_store_ rfl rfl rfl rfl rfl sz_23 ?_)
         refine AL.b ?_
         refine AL.ra ?_
         refine AL.nil ?_
         change AW _ _ _ _ _
         refine AW.ret ?_
         change ResA _ _ _ _ _
         refine res2 rfl (ResV.cells rfl rfl ag_23 (Nat.le_of_ble_eq_true rfl) rfl) rfl (ResV.tmp rfl) rfl ?_
         (have e := rd_ok (s := s) (z := ⟨if s.getD 0 0 = 108 then 1 else 0, (scn s k).1, (scn s k).2⟩) (by simp_all) (by simp_all); rw [e]; simp_all [RefD.cs])
     ·skip
      refine AW.skip ?_
      change AW _ _ _ _ _
      refine AW.seq ?_
      refine AW.seq ?_
      refine AW.region ?_
      refine AL.ra ?_
      refine AL.nil ?_
      change AW _ _ _ _ _
      refine AW.block ?_
      refine AW.loopM (ι := Nat) [27, 28, 29, 30, 31, 32, 33, 34, 35, 36, 37, 38, 39, 40, 41, 42, 43, 44, 45, 46, 47, 48, 49, 50] (fun k => [(5, AI ((5 + k : Nat) : Int))]) [] (fun k => [(1, ⟨1, .box 23 [AI 0, AS (scn s k).1, AS (scn s k).2]⟩)]) (fun k => 5 + k ≤ s.length) (fun k => s.length - (5 + k)) 0 (by omega) (by simp only [anys, upds, offs, List.set_cons_zero, List.set_cons_succ]; repeat (first | exact Wk.nil | refine Wk.same ?_ | refine Wk.any ?_)) (by simp only [anys, upds, offs, List.set_cons_zero, List.set_cons_succ]; repeat (first | exact Sk.nil _ | refine Sk.same _ ?_ | refine Sk.scr _ (by decide) ?_)) ?_
      rintro k gs hJ
      refine AW.norm (by simp only [anys, upds, offs, List.set_cons_zero, List.set_cons_succ]; rfl) (by (try simp only [anys, upds, offs, List.set_cons_zero, List.set_cons_succ]); (try rfl)) ?_
      refine AW.seq ?_
      refine AW.seq ?_
      refine AW.region ?_
      refine AL.rm ?_
      refine AL.rm ?_
      refine AL.r (rd_len_str rfl str_9 rfl) ?_
      refine AL.r (rd_bin rfl rfl rfl (fun _ => rfl)) ?_
      refine AL.nil ?_
      change AW _ _ _ _ _
      refine AW.cd rfl (fun h30 => ?_) (fun h30 => ?_)
      ·skip
       refine AW.skip ?_
       change AW _ _ _ _ _
       refine AW.seq ?_
       refine AW.block ?_
       refine AW.seq ?_
       refine AW.region ?_
       have hq := getD_nat (s := s) (i := 5 + k) (c := 46) (by omega) (by decide)
       refine AL.rm ?_
       refine AL.rm ?_
       refine AL.r (rd_index_str rfl str_9 rfl rfl (rfl) (List.getElem?_eq_getElem (by omega))) ?_
       refine AL.r (rd_bin rfl rfl rfl (fun _ => rfl)) ?_
       refine AL.rm ?_
       refine AL.fk (d := 37) rfl (fun h37 => ?_) (fun h37 => ?_)
       ·skip
        refine AL.n ?_
        refine AL.ro (rd_faddr_bx rfl fo_23_1 rfl rfl ⟨_, _, rfl⟩) ?_
        refine AL.ro (rd_load_bx rfl ag_9 rfl rfl rfl) ?_
        refine AL.ro (rd_seq rfl rfl rfl) ?_
        refine AL.r (rd_pick_t rfl rfl rfl) ?_
        refine AL.nil ?_
        change AW _ _ _ _ _
        refine AW.cd rfl (fun h41 => ?_) (fun h41 => ?_)
        ·skip
         refine AW.seq ?_
         refine AW.region ?_
         refine AL.rm ?_
         refine AL.rm ?_
         refine AL.r (rd_slice_str rfl str_9 rfl (m := 5) (n := 5 + k) ⟨_, _, rfl, rfl⟩ ⟨_, _, rfl, rfl⟩ (by omega) (by omega)) ?_
         refine AL.r (rd_faddr_bx rfl fo_23_1 rfl rfl ⟨_, _, rfl⟩) ?_
         refine AL.op rfl (op_store_ rfl rfl rfl rfl rfl sz_9 ?_)
         refine AL.b ?_
         refine AL.nil ?_
         change AW _ _ _ _ _
         refine AW.region ?_
         refine AL.rm ?_
         refine AL.rm ?_
         refine AL.r (rd_arith_add rfl rfl rfl (by first | exact IntWalk.i64_in _ (by omega) | rfl)) ?_
         refine AL.r (rd_slice_str rfl str_9 rfl (m := 5 + k + 1) ⟨_, _, rfl, rfl⟩ rfl (by omega) (by omega)) ?_
         refine AL.r (rd_faddr_bx rfl fo_23_2 rfl rfl ⟨_, _, rfl⟩) ?_
         refine AL.op rfl (op_store_ rfl rfl rfl rfl rfl sz_9 ?_)
         refine AL.b ?_
         refine AL.nil ?_
         change AW _ _ _ _ _
         refine AW.region ?_
         refine AL.rm ?_
         refine AL.r (rd_arith_add rfl rfl rfl (by first | exact IntWalk.i64_in _ (by omega) | rfl)) ?_
         refine AL.ra ?_
         refine AL.nil ?_
         refine ⟨k + 1, by omega, by first | omega | (simp only []; omega), ?_, ?_⟩
         ·simp only [anys, upds, offs, List.set_cons_zero, List.set_cons_succ]; repeat (first | exact Wk.nil | refine Wk.same ?_ | refine Wk.any ?_)
         ·simp only [anys, upds, offs, List.set_cons_zero, List.set_cons_succ]; repeat (first | exact Sk.nil _ | refine Sk.same _ ?_ | refine Sk.scr _ (by decide) ?_ | refine Sk.eq _ (by (simp_all [scn])) ?_)
        ·skip
         refine AW.skip ?_
         change AW _ _ _ _ _
         refine AW.region ?_
         refine AL.rm ?_
         refine AL.r (rd_arith_add rfl rfl rfl (by first | exact IntWalk.i64_in _ (by omega) | rfl)) ?_
         refine AL.ra ?_
         refine AL.nil ?_
         refine ⟨k + 1, by omega, by first | omega | (simp only []; omega), ?_, ?_⟩
         ·simp only [anys, upds, offs, List.set_cons_zero, List.set_cons_succ]; repeat (first | exact Wk.nil | refine Wk.same ?_ | refine Wk.any ?_)
         ·simp only [anys, upds, offs, List.set_cons_zero, List.set_cons_succ]; repeat (first | exact Sk.nil _ | refine Sk.same _ ?_ | refine Sk.scr _ (by decide) ?_ | refine Sk.eq _ (by (simp_all [scn])) ?_)
       ·skip
        refine AL.n ?_
        refine AL.rf ?_
        refine AL.rf ?_
        refine AL.rf ?_
        refine AL.r (rd_pick_f rfl rfl rfl) ?_
        refine AL.nil ?_
        change AW _ _ _ _ _
        refine AW.cond_f rfl ?_
        refine AW.skip ?_
        change AW _ _ _ _ _
        refine AW.region ?_
        refine AL.rm ?_
        refine AL.r (rd_arith_add rfl rfl rfl (by first | exact IntWalk.i64_in _ (by omega) | rfl)) ?_
        refine AL.ra ?_
        refine AL.nil ?_
        refine ⟨k + 1, by omega, by first | omega | (simp only []; omega), ?_, ?_⟩
        ·simp only [anys, upds, offs, List.set_cons_zero, List.set_cons_succ]; repeat (first | exact Wk.nil | refine Wk.same ?_ | refine Wk.any ?_)
        ·simp only [anys, upds, offs, List.set_cons_zero, List.set_cons_succ]; repeat (first | exact Sk.nil _ | refine Sk.same _ ?_ | refine Sk.scr _ (by decide) ?_ | refine Sk.eq _ (by (simp_all [scn])) ?_)
      ·skip
       refine AW.exit ?_
       change AW _ _ _ _ _
       refine AW.seq ?_
       refine AW.seq ?_
       refine AW.region ?_
       refine AL.r (rd_loadN_bx rfl ag_23 rfl rfl (Nat.le_of_ble_eq_true rfl) rfl) ?_
       refine AL.op rfl (AOpB.op (op_call (rplace_c ⟨_, _, _⟩) rfl (by kernel_rfl) rfl (none) ?_))
       rintro r rfl
       refine AL.n ?_
       refine AL.r (rd_un rfl rfl (fun _ => rfl)) ?_
       refine AL.rm ?_
       refine AL.fk (d := 54) rfl (fun h54 => ?_) (fun h54 => ?_)
       ·skip
        refine AL.n ?_
        refine AL.rf ?_
        refine AL.rf ?_
        refine AL.rf ?_
        refine AL.rf ?_
        refine AL.r (rd_pick_t rfl rfl rfl) ?_
        refine AL.nil ?_
        change AW _ _ _ _ _
        refine AW.cond_t rfl ?_
        refine AW.seq ?_
        refine AW.region ?_
        refine AL.r (rd_build rfl pl_23 ze_23 rfl rfl) ?_
        refine AL.op rfl (op_store_ rfl rfl rfl rfl rfl sz_23 ?_)
        refine AL.b ?_
        refine AL.ra ?_
        refine AL.nil ?_
        change AW _ _ _ _ _
        refine AW.ret ?_
        change ResA _ _ _ _ _
        refine res2 rfl (ResV.cells rfl rfl ag_23 (Nat.le_of_ble_eq_true rfl) rfl) rfl (ResV.tmp rfl) rfl ?_
        (rw [rd_bad (sc := if s.getD 0 0 = 108 then 1 else 0) (k := k) (by omega) rfl (by simp_all)]; rfl)
       ·skip
        refine AL.n ?_
        refine AL.ro (rd_loadN_bx rfl ag_23 rfl rfl (Nat.le_of_ble_eq_true rfl) rfl) ?_
        refine AL.on rfl rfl rfl (AOpB.op (op_call (rprint_c ⟨_, _, _⟩) rfl (by kernel_rfl) rfl (none) ?_))
        rintro r rfl
        refine AL.n ?_
        refine AL.ro (rd_move rfl rfl) ?_
        refine AL.ro (rd_sne rfl rfl rfl) ?_
        refine AL.r (rd_pick_f rfl rfl rfl) ?_
        refine AL.nil ?_
        change AW _ _ _ _ _
        refine AW.cd rfl (fun h59 => ?_) (fun h59 => ?_)
        ·skip
         refine AW.seq ?_
         refine AW.region ?_
         refine AL.r (rd_build rfl pl_23 ze_23 rfl rfl) ?_
         refine AL.op rfl (op_store_ rfl rfl rfl rfl rfl sz_23 ?_)
         refine AL.b ?_
         refine AL.ra ?_
         refine AL.nil ?_
         change AW _ _ _ _ _
         refine AW.ret ?_
         change ResA _ _ _ _ _
         refine res2 rfl (ResV.cells rfl rfl ag_23 (Nat.le_of_ble_eq_true rfl) rfl) rfl (ResV.tmp rfl) rfl ?_
         (rw [rd_bad (sc := if s.getD 0 0 = 108 then 1 else 0) (k := k) (by omega) rfl (by simp_all)]; rfl)
        ·skip
         refine AW.skip ?_
         change AW _ _ _ _ _
         refine AW.seq ?_
         refine AW.region ?_
         refine AL.r (rd_loadN_bx rfl ag_23 rfl rfl (Nat.le_of_ble_eq_true rfl) rfl) ?_
         refine AL.op rfl (op_store_ rfl rfl rfl rfl rfl sz_23 ?_)
         refine AL.b ?_
         refine AL.ra ?_
         refine AL.nil ?_
         change AW _ _ _ _ _
         refine AW.ret ?_
         change ResA _ _ _ _ _
         refine res2 rfl (ResV.cells rfl rfl ag_23 (Nat.le_of_ble_eq_true rfl) rfl) rfl (ResV.tmp rfl) rfl ?_
         (have e := rd_ok (s := s) (z := ⟨if s.getD 0 0 = 108 then 1 else 0, (scn s k).1, (scn s k).2⟩) (by simp_all) (by simp_all); rw [e]; simp_all [RefD.cs])
   ·skip
    refine AL.n ?_
    refine AL.rf ?_
    refine AL.rf ?_
    refine AL.rf ?_
    refine AL.ro (rd_pick_f rfl rfl rfl) ?_
    refine AL.r (rd_pick_f rfl rfl rfl) ?_
    refine AL.nil ?_
    change AW _ _ _ _ _
    refine AW.cond_f rfl ?_
    refine AW.skip ?_
    change AW _ _ _ _ _
    refine AW.seq ?_
    refine AW.region ?_
    refine AL.rm ?_
    refine AL.r (rd_slice_str rfl str_9 rfl (m := 5) ⟨_, _, rfl, rfl⟩ rfl (by omega) (by omega)) ?_
    refine AL.r (rd_build rfl pl_23 ze_23 rfl rfl) ?_
    refine AL.op rfl (AOpB.op (op_alloc 1 rfl ze_23 rfl ?_))
    refine AL.n ?_
    refine AL.op rfl (op_store_ rfl rfl rfl rfl rfl sz_23 ?_)
    refine AL.b ?_
    refine AL.nil ?_
    change AW _ _ _ _ _
    refine AW.seq ?_
    refine AW.seq ?_
    refine AW.region ?_
    refine AL.rm ?_
    refine AL.r (rd_index_str rfl str_9 rfl rfl (show (0 : Int) = ((0 : Nat) : Int) from rfl) (List.getElem?_eq_getElem (show 0 < s.length by omega))) ?_
    have hz := getD_nat (s := s) (i := 0) (c := 108) (by omega) (by decide)
    refine AL.r (rd_bin rfl rfl rfl (fun _ => rfl)) ?_
    refine AL.nil ?_
    change AW _ _ _ _ _
    refine AW.cd rfl (fun h25 => ?_) (fun h25 => ?_)
    ·skip
     refine AW.region ?_
     refine AL.r (rd_faddr_bx rfl fo_23_0 rfl rfl ⟨_, _, rfl⟩) ?_
     refine AL.op rfl (op_store_ rfl rfl rfl rfl rfl sz_3 ?_)
     refine AL.b ?_
     refine AL.nil ?_
     change AW _ _ _ _ _
     refine AW.seq ?_
     refine AW.seq ?_
     refine AW.region ?_
     refine AL.ra ?_
     refine AL.nil ?_
     change AW _ _ _ _ _
     refine AW.block ?_
     refine AW.loopM (ι := Nat) [27, 28, 29, 30, 31, 32, 33, 34, 35, 36, 37, 38, 39, 40, 41, 42, 43, 44, 45, 46, 47, 48, 49, 50] (fun k => [(5, AI ((5 + k : Nat) : Int))]) [] (fun k => [(1, ⟨1, .box 23 [AI 1, AS (scn s k).1, AS (scn s k).2]⟩)]) (fun k => 5 + k ≤ s.length) (fun k => s.length - (5 + k)) 0 (by omega) (by simp only [anys, upds, offs, List.set_cons_zero, List.set_cons_succ]; repeat (first | exact Wk.nil | refine Wk.same ?_ | refine Wk.any ?_)) (by simp only [anys, upds, offs, List.set_cons_zero, List.set_cons_succ]; repeat (first | exact Sk.nil _ | refine Sk.same _ ?_ | refine Sk.scr _ (by decide) ?_)) ?_
     rintro k gs hJ
     refine AW.norm (by simp only [anys, upds, offs, List.set_cons_zero, List.set_cons_succ]; rfl) (by (try simp only [anys, upds, offs, List.set_cons_zero, List.set_cons_succ]); (try rfl)) ?_
     refine AW.seq ?_
     refine AW.seq ?_
     refine AW.region ?_
     refine AL.rm ?_
     refine AL.rm ?_
     refine AL.r (rd_len_str rfl str_9 rfl) ?_
     refine AL.r (rd_bin rfl rfl rfl (fun _ => rfl)) ?_
     refine AL.nil ?_
     change AW _ _ _ _ _
     refine AW.cd rfl (fun h30 => ?_) (fun h30 => ?_)
     ·skip
      refine AW.skip ?_
      change AW _ _ _ _ _
      refine AW.seq ?_
      refine AW.block ?_
      refine AW.seq ?_
      refine AW.region ?_
      have hq := getD_nat (s := s) (i := 5 + k) (c := 46) (by omega) (by decide)
      refine AL.rm ?_
      refine AL.rm ?_
      refine AL.r (rd_index_str rfl str_9 rfl rfl (rfl) (List.getElem?_eq_getElem (by omega))) ?_
      refine AL.r (rd_bin rfl rfl rfl (fun _ => rfl)) ?_
      refine AL.rm ?_
      refine AL.fk (d := 37) rfl (fun h37 => ?_) (fun h37 => ?_)
      ·skip
       refine AL.n ?_
       refine AL.ro (rd_faddr_bx rfl fo_23_1 rfl rfl ⟨_, _, rfl⟩) ?_
       refine AL.ro (rd_load_bx rfl ag_9 rfl rfl rfl) ?_
       refine AL.ro (rd_seq rfl rfl rfl) ?_
       refine AL.r (rd_pick_t rfl rfl rfl) ?_
       refine AL.nil ?_
       change AW _ _ _ _ _
       refine AW.cd rfl (fun h41 => ?_) (fun h41 => ?_)
       ·skip
        refine AW.seq ?_
        refine AW.region ?_
        refine AL.rm ?_
        refine AL.rm ?_
        refine AL.r (rd_slice_str rfl str_9 rfl (m := 5) (n := 5 + k) ⟨_, _, rfl, rfl⟩ ⟨_, _, rfl, rfl⟩ (by omega) (by omega)) ?_
        refine AL.r (rd_faddr_bx rfl fo_23_1 rfl rfl ⟨_, _, rfl⟩) ?_
        refine AL.op rfl (op_store_ rfl rfl rfl rfl rfl sz_9 ?_)
        refine AL.b ?_
        refine AL.nil ?_
        change AW _ _ _ _ _
        refine AW.region ?_
        refine AL.rm ?_
        refine AL.rm ?_
        refine AL.r (rd_arith_add rfl rfl rfl (by first | exact IntWalk.i64_in _ (by omega) | rfl)) ?_
        refine AL.r (rd_slice_str rfl str_9 rfl (m := 5 + k + 1) ⟨_, _, rfl, rfl⟩ rfl (by omega) (by omega)) ?_
        refine AL.r (rd_faddr_bx rfl fo_23_2 rfl rfl ⟨_, _, rfl⟩) ?_
        refine AL.op rfl (op_store_ rfl rfl rfl rfl rfl sz_9 ?_)
        refine AL.b ?_
        refine AL.nil ?_
        change AW _ _ _ _ _
        refine AW.region ?_
        refine AL.rm ?_
        refine AL.r (rd_arith_add rfl rfl rfl (by first | exact IntWalk.i64_in _ (by omega) | rfl)) ?_
        refine AL.ra ?_
        refine AL.nil ?_
        refine ⟨k + 1, by omega, by first | omega | (simp only []; omega), ?_, ?_⟩
        ·simp only [anys, upds, offs, List.set_cons_zero, List.set_cons_succ]; repeat (first | exact Wk.nil | refine Wk.same ?_ | refine Wk.any ?_)
        ·simp only [anys, upds, offs, List.set_cons_zero, List.set_cons_succ]; repeat (first | exact Sk.nil _ | refine Sk.same _ ?_ | refine Sk.scr _ (by decide) ?_ | refine Sk.eq _ (by (simp_all [scn])) ?_)
       ·skip
        refine AW.skip ?_
        change AW _ _ _ _ _
        refine AW.region ?_
        refine AL.rm ?_
        refine AL.r (rd_arith_add rfl rfl rfl (by first | exact IntWalk.i64_in _ (by omega) | rfl)) ?_
        refine AL.ra ?_
        refine AL.nil ?_
        refine ⟨k + 1, by omega, by first | omega | (simp only []; omega), ?_, ?_⟩
        ·simp only [anys, upds, offs, List.set_cons_zero, List.set_cons_succ]; repeat (first | exact Wk.nil | refine Wk.same ?_ | refine Wk.any ?_)
        ·simp only [anys, upds, offs, List.set_cons_zero, List.set_cons_succ]; repeat (first | exact Sk.nil _ | refine Sk.same _ ?_ | refine Sk.scr _ (by decide) ?_ | refine Sk.eq _ (by (simp_all [scn])) ?_)
      ·skip
       refine AL.n ?_
       refine AL.rf ?_
       refine AL.rf ?_
       refine AL.rf ?_
       refine AL.r (rd_pick_f rfl rfl rfl) ?_
       refine AL.nil ?_
       change AW _ _ _ _ _
       refine AW.cond_f rfl ?_
       refine AW.skip ?_
       change AW _ _ _ _ _
       refine AW.region ?_
       refine AL.rm ?_
       refine AL.r (rd_arith_add rfl rfl rfl (by first | exact IntWalk.i64_in _ (by omega) | rfl)) ?_
       refine AL.ra ?_
       refine AL.nil ?_
       refine ⟨k + 1, by omega, by first | omega | (simp only []; omega), ?_, ?_⟩
       ·simp only [anys, upds, offs, List.set_cons_zero, List.set_cons_succ]; repeat (first | exact Wk.nil | refine Wk.same ?_ | refine Wk.any ?_)
       ·simp only [anys, upds, offs, List.set_cons_zero, List.set_cons_succ]; repeat (first | exact Sk.nil _ | refine Sk.same _ ?_ | refine Sk.scr _ (by decide) ?_ | refine Sk.eq _ (by (simp_all [scn])) ?_)
     ·skip
      refine AW.exit ?_
      change AW _ _ _ _ _
      refine AW.seq ?_
      refine AW.seq ?_
      refine AW.region ?_
      refine AL.r (rd_loadN_bx rfl ag_23 rfl rfl (Nat.le_of_ble_eq_true rfl) rfl) ?_
      refine AL.op rfl (AOpB.op (op_call (rplace_c ⟨_, _, _⟩) rfl (by kernel_rfl) rfl (none) ?_))
      rintro r rfl
      refine AL.n ?_
      refine AL.r (rd_un rfl rfl (fun _ => rfl)) ?_
      refine AL.rm ?_
      refine AL.fk (d := 54) rfl (fun h54 => ?_) (fun h54 => ?_)
      ·skip
       refine AL.n ?_
       refine AL.rf ?_
       refine AL.rf ?_
       refine AL.rf ?_
       refine AL.rf ?_
       refine AL.r (rd_pick_t rfl rfl rfl) ?_
       refine AL.nil ?_
       change AW _ _ _ _ _
       refine AW.cond_t rfl ?_
       refine AW.seq ?_
       refine AW.region ?_
       refine AL.r (rd_build rfl pl_23 ze_23 rfl rfl) ?_
       refine AL.op rfl (op_store_ rfl rfl rfl rfl rfl sz_23 ?_)
       refine AL.b ?_
       refine AL.ra ?_
       refine AL.nil ?_
       change AW _ _ _ _ _
       refine AW.ret ?_
       change ResA _ _ _ _ _
       refine res2 rfl (ResV.cells rfl rfl ag_23 (Nat.le_of_ble_eq_true rfl) rfl) rfl (ResV.tmp rfl) rfl ?_
       (rw [rd_bad (sc := if s.getD 0 0 = 108 then 1 else 0) (k := k) (by omega) rfl (by simp_all)]; rfl)
      ·skip
       refine AL.n ?_
       refine AL.ro (rd_loadN_bx rfl ag_23 rfl rfl (Nat.le_of_ble_eq_true rfl) rfl) ?_
       refine AL.on rfl rfl rfl (AOpB.op (op_call (rprint_c ⟨_, _, _⟩) rfl (by kernel_rfl) rfl (none) ?_))
       rintro r rfl
       refine AL.n ?_
       refine AL.ro (rd_move rfl rfl) ?_
       refine AL.ro (rd_sne rfl rfl rfl) ?_
       refine AL.r (rd_pick_f rfl rfl rfl) ?_
       refine AL.nil ?_
       change AW _ _ _ _ _
       refine AW.cd rfl (fun h59 => ?_) (fun h59 => ?_)
       ·skip
        refine AW.seq ?_
        refine AW.region ?_
        refine AL.r (rd_build rfl pl_23 ze_23 rfl rfl) ?_
        refine AL.op rfl (op_store_ rfl rfl rfl rfl rfl sz_23 ?_)
        refine AL.b ?_
        refine AL.ra ?_
        refine AL.nil ?_
        change AW _ _ _ _ _
        refine AW.ret ?_
        change ResA _ _ _ _ _
        refine res2 rfl (ResV.cells rfl rfl ag_23 (Nat.le_of_ble_eq_true rfl) rfl) rfl (ResV.tmp rfl) rfl ?_
        (rw [rd_bad (sc := if s.getD 0 0 = 108 then 1 else 0) (k := k) (by omega) rfl (by simp_all)]; rfl)
       ·skip
        refine AW.skip ?_
        change AW _ _ _ _ _
        refine AW.seq ?_
        refine AW.region ?_
        refine AL.r (rd_loadN_bx rfl ag_23 rfl rfl (Nat.le_of_ble_eq_true rfl) rfl) ?_
        refine AL.op rfl (op_store_ rfl rfl rfl rfl rfl sz_23 ?_)
        refine AL.b ?_
        refine AL.ra ?_
        refine AL.nil ?_
        change AW _ _ _ _ _
        refine AW.ret ?_
        change ResA _ _ _ _ _
        refine res2 rfl (ResV.cells rfl rfl ag_23 (Nat.le_of_ble_eq_true rfl) rfl) rfl (ResV.tmp rfl) rfl ?_
        (have e := rd_ok (s := s) (z := ⟨if s.getD 0 0 = 108 then 1 else 0, (scn s k).1, (scn s k).2⟩) (by simp_all) (by simp_all); rw [e]; simp_all [RefD.cs])
    ·skip
     refine AW.skip ?_
     change AW _ _ _ _ _
     refine AW.seq ?_
     refine AW.seq ?_
     refine AW.region ?_
     refine AL.ra ?_
     refine AL.nil ?_
     change AW _ _ _ _ _
     refine AW.block ?_
     refine AW.loopM (ι := Nat) [27, 28, 29, 30, 31, 32, 33, 34, 35, 36, 37, 38, 39, 40, 41, 42, 43, 44, 45, 46, 47, 48, 49, 50] (fun k => [(5, AI ((5 + k : Nat) : Int))]) [] (fun k => [(1, ⟨1, .box 23 [AI 0, AS (scn s k).1, AS (scn s k).2]⟩)]) (fun k => 5 + k ≤ s.length) (fun k => s.length - (5 + k)) 0 (by omega) (by simp only [anys, upds, offs, List.set_cons_zero, List.set_cons_succ]; repeat (first | exact Wk.nil | refine Wk.same ?_ | refine Wk.any ?_)) (by simp only [anys, upds, offs, List.set_cons_zero, List.set_cons_succ]; repeat (first | exact Sk.nil _ | refine Sk.same _ ?_ | refine Sk.scr _ (by decide) ?_)) ?_
     rintro k gs hJ
     refine AW.norm (by simp only [anys, upds, offs, List.set_cons_zero, List.set_cons_succ]; rfl) (by (try simp only [anys, upds, offs, List.set_cons_zero, List.set_cons_succ]); (try rfl)) ?_
     refine AW.seq ?_
     refine AW.seq ?_
     refine AW.region ?_
     refine AL.rm ?_
     refine AL.rm ?_
     refine AL.r (rd_len_str rfl str_9 rfl) ?_
     refine AL.r (rd_bin rfl rfl rfl (fun _ => rfl)) ?_
     refine AL.nil ?_
     change AW _ _ _ _ _
     refine AW.cd rfl (fun h30 => ?_) (fun h30 => ?_)
     ·skip
      refine AW.skip ?_
      change AW _ _ _ _ _
      refine AW.seq ?_
      refine AW.block ?_
      refine AW.seq ?_
      refine AW.region ?_
      have hq := getD_nat (s := s) (i := 5 + k) (c := 46) (by omega) (by decide)
      refine AL.rm ?_
      refine AL.rm ?_
      refine AL.r (rd_index_str rfl str_9 rfl rfl (rfl) (List.getElem?_eq_getElem (by omega))) ?_
      refine AL.r (rd_bin rfl rfl rfl (fun _ => rfl)) ?_
      refine AL.rm ?_
      refine AL.fk (d := 37) rfl (fun h37 => ?_) (fun h37 => ?_)
      ·skip
       refine AL.n ?_
       refine AL.ro (rd_faddr_bx rfl fo_23_1 rfl rfl ⟨_, _, rfl⟩) ?_
       refine AL.ro (rd_load_bx rfl ag_9 rfl rfl rfl) ?_
       refine AL.ro (rd_seq rfl rfl rfl) ?_
       refine AL.r (rd_pick_t rfl rfl rfl) ?_
       refine AL.nil ?_
       change AW _ _ _ _ _
       refine AW.cd rfl (fun h41 => ?_) (fun h41 => ?_)
       ·skip
        refine AW.seq ?_
        refine AW.region ?_
        refine AL.rm ?_
        refine AL.rm ?_
        refine AL.r (rd_slice_str rfl str_9 rfl (m := 5) (n := 5 + k) ⟨_, _, rfl, rfl⟩ ⟨_, _, rfl, rfl⟩ (by omega) (by omega)) ?_
        refine AL.r (rd_faddr_bx rfl fo_23_1 rfl rfl ⟨_, _, rfl⟩) ?_
        refine AL.op rfl (op_store_ rfl rfl rfl rfl rfl sz_9 ?_)
        refine AL.b ?_
        refine AL.nil ?_
        change AW _ _ _ _ _
        refine AW.region ?_
        refine AL.rm ?_
        refine AL.rm ?_
        refine AL.r (rd_arith_add rfl rfl rfl (by first | exact IntWalk.i64_in _ (by omega) | rfl)) ?_
        refine AL.r (rd_slice_str rfl str_9 rfl (m := 5 + k + 1) ⟨_, _, rfl, rfl⟩ rfl (by omega) (by omega)) ?_
        refine AL.r (rd_faddr_bx rfl fo_23_2 rfl rfl ⟨_, _, rfl⟩) ?_
        refine AL.op rfl (op_store_ rfl rfl rfl rfl rfl sz_9 ?_)
        refine AL.b ?_
        refine AL.nil ?_
        change AW _ _ _ _ _
        refine AW.region ?_
        refine AL.rm ?_
        refine AL.r (rd_arith_add rfl rfl rfl (by first | exact IntWalk.i64_in _ (by omega) | rfl)) ?_
        refine AL.ra ?_
        refine AL.nil ?_
        refine ⟨k + 1, by omega, by first | omega | (simp only []; omega), ?_, ?_⟩
        ·simp only [anys, upds, offs, List.set_cons_zero, List.set_cons_succ]; repeat (first | exact Wk.nil | refine Wk.same ?_ | refine Wk.any ?_)
        ·simp only [anys, upds, offs, List.set_cons_zero, List.set_cons_succ]; repeat (first | exact Sk.nil _ | refine Sk.same _ ?_ | refine Sk.scr _ (by decide) ?_ | refine Sk.eq _ (by (simp_all [scn])) ?_)
       ·skip
        refine AW.skip ?_
        change AW _ _ _ _ _
        refine AW.region ?_
        refine AL.rm ?_
        refine AL.r (rd_arith_add rfl rfl rfl (by first | exact IntWalk.i64_in _ (by omega) | rfl)) ?_
        refine AL.ra ?_
        refine AL.nil ?_
        refine ⟨k + 1, by omega, by first | omega | (simp only []; omega), ?_, ?_⟩
        ·simp only [anys, upds, offs, List.set_cons_zero, List.set_cons_succ]; repeat (first | exact Wk.nil | refine Wk.same ?_ | refine Wk.any ?_)
        ·simp only [anys, upds, offs, List.set_cons_zero, List.set_cons_succ]; repeat (first | exact Sk.nil _ | refine Sk.same _ ?_ | refine Sk.scr _ (by decide) ?_ | refine Sk.eq _ (by (simp_all [scn])) ?_)
      ·skip
       refine AL.n ?_
       refine AL.rf ?_
       refine AL.rf ?_
       refine AL.rf ?_
       refine AL.r (rd_pick_f rfl rfl rfl) ?_
       refine AL.nil ?_
       change AW _ _ _ _ _
       refine AW.cond_f rfl ?_
       refine AW.skip ?_
       change AW _ _ _ _ _
       refine AW.region ?_
       refine AL.rm ?_
       refine AL.r (rd_arith_add rfl rfl rfl (by first | exact IntWalk.i64_in _ (by omega) | rfl)) ?_
       refine AL.ra ?_
       refine AL.nil ?_
       refine ⟨k + 1, by omega, by first | omega | (simp only []; omega), ?_, ?_⟩
       ·simp only [anys, upds, offs, List.set_cons_zero, List.set_cons_succ]; repeat (first | exact Wk.nil | refine Wk.same ?_ | refine Wk.any ?_)
       ·simp only [anys, upds, offs, List.set_cons_zero, List.set_cons_succ]; repeat (first | exact Sk.nil _ | refine Sk.same _ ?_ | refine Sk.scr _ (by decide) ?_ | refine Sk.eq _ (by (simp_all [scn])) ?_)
     ·skip
      refine AW.exit ?_
      change AW _ _ _ _ _
      refine AW.seq ?_
      refine AW.seq ?_
      refine AW.region ?_
      refine AL.r (rd_loadN_bx rfl ag_23 rfl rfl (Nat.le_of_ble_eq_true rfl) rfl) ?_
      refine AL.op rfl (AOpB.op (op_call (rplace_c ⟨_, _, _⟩) rfl (by kernel_rfl) rfl (none) ?_))
      rintro r rfl
      refine AL.n ?_
      refine AL.r (rd_un rfl rfl (fun _ => rfl)) ?_
      refine AL.rm ?_
      refine AL.fk (d := 54) rfl (fun h54 => ?_) (fun h54 => ?_)
      ·skip
       refine AL.n ?_
       refine AL.rf ?_
       refine AL.rf ?_
       refine AL.rf ?_
       refine AL.rf ?_
       refine AL.r (rd_pick_t rfl rfl rfl) ?_
       refine AL.nil ?_
       change AW _ _ _ _ _
       refine AW.cond_t rfl ?_
       refine AW.seq ?_
       refine AW.region ?_
       refine AL.r (rd_build rfl pl_23 ze_23 rfl rfl) ?_
       refine AL.op rfl (op_store_ rfl rfl rfl rfl rfl sz_23 ?_)
       refine AL.b ?_
       refine AL.ra ?_
       refine AL.nil ?_
       change AW _ _ _ _ _
       refine AW.ret ?_
       change ResA _ _ _ _ _
       refine res2 rfl (ResV.cells rfl rfl ag_23 (Nat.le_of_ble_eq_true rfl) rfl) rfl (ResV.tmp rfl) rfl ?_
       (rw [rd_bad (sc := if s.getD 0 0 = 108 then 1 else 0) (k := k) (by omega) rfl (by simp_all)]; rfl)
      ·skip
       refine AL.n ?_
       refine AL.ro (rd_loadN_bx rfl ag_23 rfl rfl (Nat.le_of_ble_eq_true rfl) rfl) ?_
       refine AL.on rfl rfl rfl (AOpB.op (op_call (rprint_c ⟨_, _, _⟩) rfl (by kernel_rfl) rfl (none) ?_))
       rintro r rfl
       refine AL.n ?_
       refine AL.ro (rd_move rfl rfl) ?_
       refine AL.ro (rd_sne rfl rfl rfl) ?_
       refine AL.r (rd_pick_f rfl rfl rfl) ?_
       refine AL.nil ?_
       change AW _ _ _ _ _
       refine AW.cd rfl (fun h59 => ?_) (fun h59 => ?_)
       ·skip
        refine AW.seq ?_
        refine AW.region ?_
        refine AL.r (rd_build rfl pl_23 ze_23 rfl rfl) ?_
        refine AL.op rfl (op_store_ rfl rfl rfl rfl rfl sz_23 ?_)
        refine AL.b ?_
        refine AL.ra ?_
        refine AL.nil ?_
        change AW _ _ _ _ _
        refine AW.ret ?_
        change ResA _ _ _ _ _
        refine res2 rfl (ResV.cells rfl rfl ag_23 (Nat.le_of_ble_eq_true rfl) rfl) rfl (ResV.tmp rfl) rfl ?_
        (rw [rd_bad (sc := if s.getD 0 0 = 108 then 1 else 0) (k := k) (by omega) rfl (by simp_all)]; rfl)
       ·skip
        refine AW.skip ?_
        change AW _ _ _ _ _
        refine AW.seq ?_
        refine AW.region ?_
        refine AL.r (rd_loadN_bx rfl ag_23 rfl rfl (Nat.le_of_ble_eq_true rfl) rfl) ?_
        refine AL.op rfl (op_store_ rfl rfl rfl rfl rfl sz_23 ?_)
        refine AL.b ?_
        refine AL.ra ?_
        refine AL.nil ?_
        change AW _ _ _ _ _
        refine AW.ret ?_
        change ResA _ _ _ _ _
        refine res2 rfl (ResV.cells rfl rfl ag_23 (Nat.le_of_ble_eq_true rfl) rfl) rfl (ResV.tmp rfl) rfl ?_
        (have e := rd_ok (s := s) (z := ⟨if s.getD 0 0 = 108 then 1 else 0, (scn s k).1, (scn s k).2⟩) (by simp_all) (by simp_all); rw [e]; simp_all [RefD.cs])
end Go.Proofs.YtpkjlmaphhileaaDoor
