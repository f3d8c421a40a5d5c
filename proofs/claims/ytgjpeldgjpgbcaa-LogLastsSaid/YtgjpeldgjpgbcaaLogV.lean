/- The law LogLasts, walked over abstract states. -/
import Derived.Test.YtgjpeldgjpgbcaaOpC
namespace Go.Proofs.Ytgjpeldgjpgbcaa
set_option linter.unusedSimpArgs false
set_option linter.unusedVariables false
set_option maxRecDepth 100000
open Go.RowKit

structure LJ (l : List Act10) (k : Nat) (rs : List (List UInt8)) (s : Nat) (L : LogD) (d : DiskD) : Prop where
  le : k ≤ l.length
  li : LI byteN 3 100000 k rs s L d
  cnt : rs.length ≤ k
  len : ∀ r ∈ rs, r.length ≤ 400
section
variable {l : List Act10} {k : Nat} {rs : List (List UInt8)} {s : Nat} {L : LogD} {d : DiskD}
theorem LJ.skip (h : LJ l k rs s L d) (hk : k < l.length) : LJ l (k + 1) rs s L d := ⟨hk, h.li.mono (by omega), by have := h.cnt; omega, h.len⟩
theorem LJ.dark (h : LJ l k rs s L d) (hk : k < l.length) {b : List UInt8} (hd : d.dark = true) : LJ l (k + 1) rs s (addL byteN L d b) (addD byteN L d b) := by
  have e : (L.down || d.dark) = true := by rw [hd, Bool.or_true]
  unfold addL addD
  rw [if_pos e, if_pos e]
  have h2 := (h.li.mono (m := k + 1) (by omega))
  exact ⟨hk, ⟨h2.gro, h2.file, fun _ => hd, h2.sle, h2.lens, h2.r, h2.u, h2.tl, h2.fr, h2.eq⟩, by have := h.cnt; omega, h.len⟩
theorem LJ.add (h : LJ l k rs s L d) (hl : l.length ≤ 60) (hk : k < l.length) {b : List UInt8} (hb : b.length ≤ 400) (hd : d.dark = false) : LJ l (k + 1) (rs ++ [b]) s (addL byteN L d b) (addD byteN L d b) := by
  have hf := frames_le (t := byteN) h.len
  have hn := h.cnt
  refine ⟨hk, (h.li.add (by omega) (by omega) (by omega)).2 hd, by simp; omega, fun r hr => ?_⟩
  rcases List.mem_append.1 hr with hr | hr
  · exact h.len r hr
  · rw [List.mem_singleton.1 hr]; exact hb
theorem add_dark (h : LJ l k rs s L d) {b : List UInt8} (hd : d.dark = true) : addR byteN L d b = 10 := by
  have e : (L.down || d.dark) = true := by rw [hd, Bool.or_true]
  unfold addR
  rw [if_pos e]
theorem add_live (h : LJ l k rs s L d) {b : List UInt8} (h0 : addR byteN L d b = 0) : d.dark = false := by
  cases hd : d.dark with
  | false => rfl
  | true => rw [add_dark h hd] at h0; cases h0
theorem LJ.addI (h : LJ l k rs s L d) (hl : l.length ≤ 60) (hk : k < l.length) {b : List UInt8} (hb : (b.length : Int) ≤ 400) (hd : d.dark = false) : LJ l (k + 1) (rs ++ [b]) s (addL byteN L d b) (addD byteN L d b) := h.add hl hk (by omega) hd
theorem LJ.sync (h : LJ l k rs s L d) (hk : k < l.length) (hr : lsyncR L d = 0) : LJ l (k + 1) rs rs.length (lsyncL L d) (lsyncD L d) := ⟨hk, ((h.li.sync (by omega)).1 hr).mono (by omega), by have := h.cnt; omega, h.len⟩
theorem LJ.nosync (h : LJ l k rs s L d) (hk : k < l.length) (hr : ¬ lsyncR L d = 0) : LJ l (k + 1) rs s (lsyncL L d) (lsyncD L d) := ⟨hk, ((h.li.sync (by omega)).2 hr).mono (by omega), by have := h.cnt; omega, h.len⟩
theorem lj_new (l : List Act10) (fuse : Int) (hf : fuse < 9223372036854775808) : LJ l 0 [] 0 ⟨3, false, 0, 0, 0⟩ (fuseD (newD 100000) fuse) := ⟨Nat.zero_le _, (li_new byteN 3 (by omega)).fuse fuse hf, Nat.le_refl _, fun r hr => by cases hr⟩
def lE (d : DiskD) (keep again keep2 : Int) : DiskD := crashD (openD byteN (fuseD (crashD d keep) again) 3) keep2
/-- What is there behind both crashes. -/
theorem lasts_after (h : LJ l k rs s L d) (keep again keep2 : Int) (hag : again < 9223372036854775808) : ∃ m p, s ≤ m ∧ m ≤ rs.length ∧ Rest 100000 (k + 1) (one 3 p) (lE d keep again keep2) ∧ (lE d keep again keep2).fused = false ∧ LF byteN rs m p := by
  obtain ⟨p, m, a1, a2, a3, a4⟩ := h.li.crash (by omega) keep
  obtain ⟨F', b1, b2, b3⟩ := (a4.fuse again hag).open_crash (t := byteN) (f := 3) (by omega) keep2
  obtain ⟨p', rfl, c2⟩ := a3.after h.li.lens b3
  exact ⟨m, p', a1, a2, b1, b2, c2⟩
theorem LF.of {m : Nat} {p : List UInt8} {K : Nat} {d : DiskD} (hl : ∀ r ∈ rs, r.length ≤ 60000) (hr : Rest 100000 K (one 3 p) d) (hp : LF byteN rs m p) : (scanN byteN (d.n 3)).1 = rs.take m := by
  rw [hr.n, one_self]; exact (hp.scan hl).1
theorem LF.next {m : Nat} {p : List UInt8} {K : Nat} {d : DiskD} (hl : ∀ r ∈ rs, r.length ≤ 60000) (hr : Rest 100000 K (one 3 p) d) (hf : d.fused = false) (hp : LF byteN rs m p) : Rest 100000 (K + 1) (one 3 ((rs.take m).flatMap (frameN byteN))) (openD byteN d 3) ∧ (openD byteN d 3).fused = false := by
  obtain ⟨a, b, c⟩ := hr.open_calm (t := byteN) (f := 3) (by omega) hf
  rw [one_self, one_upd, (hp.scan hl).2] at b
  exact ⟨b, c⟩
end
set_option maxHeartbeats 1000000 in
theorem logLasts_c (l : List Act10) (fuse keep again keep2 : Int) (hfu : fuse < 9223372036854775808) (hke : -9223372036854775808 ≤ keep ∧ keep < 9223372036854775808) (hag : again < 9223372036854775808) (hke2 : -9223372036854775808 ≤ keep2 ∧ keep2 < 9223372036854775808) : AC Try.prog 6 [.sl (l.map Act10.cs), .sc (.int .i64 fuse), .sc (.int .i64 keep), .sc (.int .i64 again), .sc (.int .i64 keep2)] (fun r => r = .s (.sc (.bool true))) := by
  refine AC.of' 169 9 Try.func6 rfl ?_
  change AW _ _ _ _ [TK.mk 0 .off, TK.mk 0 .off, TK.mk 0 .off, TK.mk 0 .off, TK.mk 0 .off, TK.mk 0 .off, TK.mk 0 .off, TK.mk 0 .off, TK.mk 0 .off]
  refine AW.seq ?_
  refine AW.region ?_
  refine AL.ra ?_
  refine AL.nil ?_
  change AW _ _ _ _ _
  refine AW.seq ?_
  refine AW.seq ?_
  refine AW.region ?_
  refine AL.op rfl (AOpB.op (op_call (awake10_c) rfl (by kernel_rfl) rfl (none) ?_))
  rintro r rfl
  refine AL.no ?_
  refine AL.r (rd_un rfl rfl (fun _ => rfl)) ?_
  refine AL.nil ?_
  change AW _ _ _ _ _
  refine AW.cond_f rfl ?_
  refine AW.skip ?_
  change AW _ _ _ _ _
  refine AW.seq ?_
  refine AW.seq ?_
  refine AW.region ?_
  refine AL.rm ?_
  refine AL.op rfl (AOpB.op (op_call (long10_c l) rfl (by kernel_rfl) rfl (none) ?_))
  rintro r rfl
  refine AL.no ?_
  refine AL.nil ?_
  change AW _ _ _ _ _
  refine AW.cd rfl (fun h30 => ?_) (fun h30 => ?_)
  ·skip
   refine AW.seq ?_
   refine AW.region ?_
   refine AL.ra ?_
   refine AL.nil ?_
   change AW _ _ _ _ _
   refine AW.ret ?_
   change ResA _ _ _ _ _
   refine res1 rfl (ResV.tmp rfl) rfl ?_
   rfl
  ·skip
   refine AW.skip ?_
   change AW _ _ _ _ _
   refine AW.seq ?_
   refine AW.region ?_
   refine AL.op rfl (AOpB.op (op_call (made_c) rfl (by kernel_rfl) rfl (none) ?_))
   rintro r rfl
   refine AL.no ?_
   refine AL.op rfl (AOpB.op (op_taballoc 5 rfl rfl ?_))
   refine AL.no ?_
   refine AL.op rfl (op_tabstore rfl rfl rfl (tabA_len _) rfl sz_Table ?_)
   refine AL.no ?_
   refine AL.nil ?_
   change AW _ _ _ _ _
   refine AW.seq ?_
   refine AW.region ?_
   refine AL.op rfl (calloL (od_new 100000 (by omega) 0) [0] ?_)
   rintro y os' ⟨rfl, rfl⟩
   refine AL.noL ?_
   refine AL.rm ?_
   refine AL.r (rd_extract rfl rfl rfl) ?_
   refine AL.r (rd_extract rfl rfl rfl) ?_
   refine AL.ra ?_
   refine AL.ra ?_
   refine AL.nil ?_
   change AW _ _ _ _ _
   refine AW.seq ?_
   refine AW.region ?_
   refine AL.rm ?_
   refine AL.r (rd_tab0 rfl ag_53 rfl rfl) ?_
   refine AL.op rfl (calloL (lopen0 byteN byte_tab (newD 100000) (okNew (by omega)) (by omega) 1 0 3 (by omega) rfl rfl) [0, 1] ?_)
   rintro y os' ⟨rfl, rfl⟩
   refine AL.noL ?_
   refine AL.rm ?_
   refine AL.r (rd_extract rfl rfl rfl) ?_
   refine AL.r (rd_extract rfl rfl rfl) ?_
   refine AL.r (rd_extract rfl rfl rfl) ?_
   refine AL.ra ?_
   refine AL.ra ?_
   refine AL.ra ?_
   refine AL.nil ?_
   change AW _ _ _ _ _
   refine AW.seq ?_
   refine AW.seq ?_
   refine AW.region ?_
   refine AL.rm ?_
   refine AL.r (rd_bin rfl rfl rfl (fun _ => rfl)) ?_
   refine AL.nil ?_
   change AW _ _ _ _ _
   refine AW.cond_f rfl ?_
   refine AW.skip ?_
   change AW _ _ _ _ _
   refine AW.seq ?_
   refine AW.region ?_
   refine AL.rm ?_
   refine AL.rm ?_
   refine AL.op rfl (calloL (od_fuse (newD 100000) 1 fuse) [0] ?_)
   rintro y os' ⟨rfl, rfl⟩
   refine AL.noL ?_
   refine AL.nil ?_
   change AW _ _ _ _ _
   refine AW.seq ?_
   refine AW.region ?_
   have hll := long10_use h30
   refine AL.op rfl (AOpB.op (bs_own 6 rfl ap_56 ze_29 rfl rfl rfl ?_))
   refine AL.no ?_
   refine AL.ra ?_
   refine AL.nil ?_
   change AW _ _ _ _ _
   refine AW.seq ?_
   refine AW.region ?_
   refine AL.ra ?_
   refine AL.nil ?_
   change AW _ _ _ _ _
   refine AW.seq ?_
   refine AW.seq ?_
   refine AW.region ?_
   refine AL.ra ?_
   refine AL.nil ?_
   change AW _ _ _ _ _
   refine AW.block ?_
   refine AW.loopM (ι := Nat × List (List UInt8) × Nat × LogD × DiskD × Nat) [20, 49, 50, 51, 52, 53, 54, 55, 56, 57, 58, 59, 60, 61, 62, 63, 64, 65, 66, 67, 68, 69, 70, 71, 72, 73, 74, 75, 76, 77, 78, 79, 80, 81, 82, 83, 84, 85, 86, 87, 88, 89, 90, 91, 92, 93, 94, 95, 96, 97, 98, 99, 100, 101, 102, 103, 104] (fun ⟨k, rs, s, L, d, g⟩ => [(19, .sc (.int .i64 (k : Int))), (18, .sc (.int .i64 (s : Int))), (17, .ow 6 g)]) [7, 8] (fun ⟨k, rs, s, L, d, g⟩ => [(0, ⟨1, .obj (DiskP d)⟩), (1, ⟨1, .box 111 (fatC [.bx 0 1 0] byteN [.sc (.int .i64 L.file), .sc (.bool L.down), .sc (.int .i64 L.records), .sc (.int .i64 L.used), .sc (.int .i64 L.fresh)])⟩), (6, ⟨g, .own 29 1 (rowsA rs)⟩)]) (fun ⟨k, rs, s, L, d, g⟩ => LJ l k rs s L d) (fun ⟨k, rs, s, L, d, g⟩ => l.length - k) (0, [], 0, ⟨3, false, 0, 0, 0⟩, fuseD (newD 100000) fuse, 1) (lj_new l fuse hfu) (by simp only [anys, upds, offs, List.set_cons_zero, List.set_cons_succ]; repeat (first | exact Wk.nil | refine Wk.same ?_ | refine Wk.any ?_)) (by simp only [anys, upds, offs, List.set_cons_zero, List.set_cons_succ]; repeat (first | exact Sk.nil _ | refine Sk.same _ ?_ | refine Sk.scr _ (by decide) ?_ | refine Sk.eq _ (by rfl) ?_)) ?_
   rintro ⟨k, rs, s, L, d, g⟩ gs hJ
   refine AW.norm (by simp only [anys, upds, offs, List.set_cons_zero, List.set_cons_succ]; rfl) (by (try simp only [anys, upds, offs, List.set_cons_zero, List.set_cons_succ]); (try rfl)) ?_
   have hk := hJ.le
   have hn := hJ.cnt
   refine AW.seq ?_
   refine AW.seq ?_
   refine AW.region ?_
   refine AL.rm ?_
   refine AL.rm ?_
   refine AL.r (rd_len_sl rfl el_49 rfl) ?_
   refine AL.r (rd_bin rfl rfl rfl (fun _ => rfl)) ?_
   refine AL.nil ?_
   change AW _ _ _ _ _
   refine AW.cd rfl (fun h52 => ?_) (fun h52 => ?_)
   ·skip
    refine AW.skip ?_
    change AW _ _ _ _ _
    refine AW.seq ?_
    refine AW.block ?_
    refine AW.seq ?_
    refine AW.seq ?_
    refine AW.region ?_
    have hkl : k < l.length := (by simp only [List.length_map] at *; omega)
    refine AL.rm ?_
    refine AL.rm ?_
    refine AL.r (rd_iaddr_sl rfl el_49 rfl rfl rfl (get_mapA (by omega)) rfl) ?_
    refine AL.r (rd_faddr_ep rfl fo_60_0 rfl) ?_
    refine AL.r (rd_load_ep rfl ag_3 rfl rfl) ?_
    refine AL.r (rd_bin rfl rfl rfl (fun _ => rfl)) ?_
    refine AL.rm ?_
    refine AL.fk (d := 61) rfl (fun h61 => ?_) (fun h61 => ?_)
    ·skip
     refine AL.n ?_
     refine AL.ro (rd_move rfl rfl) ?_
     refine AL.ro (rd_move rfl rfl) ?_
     refine AL.ro (rd_iaddr_sl rfl el_49 rfl rfl rfl (get_mapA (by omega)) rfl) ?_
     refine AL.ro (rd_faddr_ep rfl fo_60_1 rfl) ?_
     refine AL.ro (rd_load_ep rfl ag_29 rfl rfl) ?_
     refine AL.ro (rd_len_sl rfl el_29 rfl) ?_
     refine AL.ro (rd_bin rfl rfl rfl (fun _ => rfl)) ?_
     refine AL.r (rd_pick_t rfl rfl rfl) ?_
     refine AL.nil ?_
     change AW _ _ _ _ _
     refine AW.cd rfl (fun h69 => ?_) (fun h69 => ?_)
     ·skip
      refine AW.seq ?_
      refine AW.region ?_
      refine AL.rm ?_
      refine AL.op rfl (calloL (od_dark d 1) [0] ?_)
      rintro y os' ⟨rfl, rfl⟩
      refine AL.noL ?_
      refine AL.ra ?_
      refine AL.nil ?_
      change AW _ _ _ _ _
      refine AW.seq ?_
      refine AW.region ?_
      refine AL.rm ?_
      refine AL.rm ?_
      refine AL.rm ?_
      refine AL.r (rd_iaddr_sl rfl el_49 rfl rfl rfl (get_mapA (by omega)) rfl) ?_
      refine AL.r (rd_faddr_ep rfl fo_60_1 rfl) ?_
      refine AL.r (rd_load_ep rfl ag_29 rfl rfl) ?_
      refine AL.op rfl (calloL (ladd_c 1 1 byteN byte_tab L hJ.li.Ok d hJ.li.gro.ok (by omega) l[k].b) [1, 0] ?_)
      rintro y os' ⟨rfl, rfl⟩
      refine AL.noL ?_
      refine AL.r (rd_bin rfl rfl rfl (fun _ => rfl)) ?_
      refine AL.rm ?_
      refine AL.fk (d := 80) rfl (fun h80 => ?_) (fun h80 => ?_)
      ·skip
       refine AL.n ?_
       refine AL.rf ?_
       refine AL.rf ?_
       refine AL.r (rd_pick_t rfl rfl rfl) ?_
       refine AL.nil ?_
       change AW _ _ _ _ _
       refine AW.cond_t rfl ?_
       refine AW.region ?_
       refine AL.rm ?_
       refine AL.rm ?_
       refine AL.rm ?_
       refine AL.r (rd_iaddr_sl rfl el_49 rfl rfl rfl (get_mapA (by omega)) rfl) ?_
       refine AL.r (rd_faddr_ep rfl fo_60_1 rfl) ?_
       refine AL.r (rd_load_ep rfl ag_29 rfl rfl) ?_
       refine AL.op rfl (AOpB.op (bs_set rfl ap_56 ze_29 rfl rfl ?_))
       refine AL.no ?_
       refine AL.op rfl (op_append rfl ap_56 rfl rfl (src_s rfl) (by simp [rowsA_len]; omega) (by simp [rowsA_len]; omega) ?_)
       refine AL.no ?_
       refine AL.ra ?_
       refine AL.nil ?_
       change AW _ _ _ _ _
       refine AW.seq ?_
       refine AW.region ?_
       refine AL.rm ?_
       refine AL.rm ?_
       refine AL.r (rd_iaddr_sl rfl el_49 rfl rfl rfl (get_mapA (by omega)) rfl) ?_
       refine AL.r (rd_faddr_ep rfl fo_60_0 rfl) ?_
       refine AL.r (rd_load_ep rfl ag_3 rfl rfl) ?_
       refine AL.r (rd_bin rfl rfl rfl (fun _ => rfl)) ?_
       refine AL.rm ?_
       refine AL.fk (d := 98) rfl (fun h98 => ?_) (fun h98 => ?_)
       ·skip
        omega
       ·skip
        refine AL.n ?_
        refine AL.rf ?_
        refine AL.rf ?_
        refine AL.rf ?_
        refine AL.r (rd_pick_f rfl rfl rfl) ?_
        refine AL.nil ?_
        change AW _ _ _ _ _
        refine AW.cond_f rfl ?_
        refine AW.skip ?_
        change AW _ _ _ _ _
        refine AW.region ?_
        refine AL.rm ?_
        refine AL.r (rd_arith_add rfl rfl rfl (by first | exact IntWalk.i64_in _ (by omega) | rfl)) ?_
        refine AL.ra ?_
        refine AL.nil ?_
        first
          | refine ⟨(k + 1, rs ++ [l[k].b], s, addL byteN L d l[k].b, addD byteN L d l[k].b, g + 1), ?_, ?_, ?_, ?_⟩
            ·exact hJ.addI hll hkl h69 (add_live hJ h80)
            ·first | omega | (simp only []; omega)
            ·simp only [anys, upds, offs, List.set_cons_zero, List.set_cons_succ]; repeat (first | exact Wk.nil | refine Wk.same ?_ | refine Wk.any ?_)
            ·simp only [anys, upds, offs, List.set_cons_zero, List.set_cons_succ]; repeat (first | exact Sk.nil _ | refine Sk.same _ ?_ | refine Sk.scr _ (by decide) ?_ | refine Sk.eq _ (by simp [rowsA]) ?_)
          | refine ⟨(k + 1, rs ++ [l[k].b], s, addL byteN L d l[k].b, addD byteN L d l[k].b, g + 1), ?_, ?_, ?_, ?_⟩
            ·exact hJ.addI hll hkl h69 h83
            ·first | omega | (simp only []; omega)
            ·simp only [anys, upds, offs, List.set_cons_zero, List.set_cons_succ]; repeat (first | exact Wk.nil | refine Wk.same ?_ | refine Wk.any ?_)
            ·simp only [anys, upds, offs, List.set_cons_zero, List.set_cons_succ]; repeat (first | exact Sk.nil _ | refine Sk.same _ ?_ | refine Sk.scr _ (by decide) ?_ | refine Sk.eq _ (by simp [rowsA]) ?_)
          | refine ⟨(k + 1, rs, s, addL byteN L d l[k].b, addD byteN L d l[k].b, g), ?_, ?_, ?_, ?_⟩
            ·exact hJ.dark hkl h83
            ·first | omega | (simp only []; omega)
            ·simp only [anys, upds, offs, List.set_cons_zero, List.set_cons_succ]; repeat (first | exact Wk.nil | refine Wk.same ?_ | refine Wk.any ?_)
            ·simp only [anys, upds, offs, List.set_cons_zero, List.set_cons_succ]; repeat (first | exact Sk.nil _ | refine Sk.same _ ?_ | refine Sk.scr _ (by decide) ?_ | refine Sk.eq _ (by simp [rowsA]) ?_)
          | refine ⟨(k + 1, rs, rs.length, lsyncL L d, lsyncD L d, g), ?_, ?_, ?_, ?_⟩
            ·exact hJ.sync hkl h102
            ·first | omega | (simp only []; omega)
            ·simp only [anys, upds, offs, List.set_cons_zero, List.set_cons_succ]; repeat (first | exact Wk.nil | refine Wk.same ?_ | refine Wk.any ?_)
            ·simp only [anys, upds, offs, List.set_cons_zero, List.set_cons_succ]; repeat (first | exact Sk.nil _ | refine Sk.same _ ?_ | refine Sk.scr _ (by decide) ?_ | refine Sk.eq _ (by simp [rowsA]) ?_)
          | refine ⟨(k + 1, rs, s, lsyncL L d, lsyncD L d, g), ?_, ?_, ?_, ?_⟩
            ·exact hJ.nosync hkl h102
            ·first | omega | (simp only []; omega)
            ·simp only [anys, upds, offs, List.set_cons_zero, List.set_cons_succ]; repeat (first | exact Wk.nil | refine Wk.same ?_ | refine Wk.any ?_)
            ·simp only [anys, upds, offs, List.set_cons_zero, List.set_cons_succ]; repeat (first | exact Sk.nil _ | refine Sk.same _ ?_ | refine Sk.scr _ (by decide) ?_ | refine Sk.eq _ (by simp [rowsA]) ?_)
          | refine ⟨(k + 1, rs, s, L, d, g), ?_, ?_, ?_, ?_⟩
            ·exact hJ.skip hkl
            ·first | omega | (simp only []; omega)
            ·simp only [anys, upds, offs, List.set_cons_zero, List.set_cons_succ]; repeat (first | exact Wk.nil | refine Wk.same ?_ | refine Wk.any ?_)
            ·simp only [anys, upds, offs, List.set_cons_zero, List.set_cons_succ]; repeat (first | exact Sk.nil _ | refine Sk.same _ ?_ | refine Sk.scr _ (by decide) ?_ | refine Sk.eq _ (by simp [rowsA]) ?_)
      ·skip
       refine AL.n ?_
       refine AL.ro (rd_move rfl rfl) ?_
       refine AL.ro (rd_un rfl rfl (fun _ => rfl)) ?_
       refine AL.r (rd_pick_f rfl rfl rfl) ?_
       refine AL.nil ?_
       change AW _ _ _ _ _
       refine AW.cd rfl (fun h83 => ?_) (fun h83 => ?_)
       ·skip
        refine AW.region ?_
        refine AL.rm ?_
        refine AL.rm ?_
        refine AL.rm ?_
        refine AL.r (rd_iaddr_sl rfl el_49 rfl rfl rfl (get_mapA (by omega)) rfl) ?_
        refine AL.r (rd_faddr_ep rfl fo_60_1 rfl) ?_
        refine AL.r (rd_load_ep rfl ag_29 rfl rfl) ?_
        refine AL.op rfl (AOpB.op (bs_set rfl ap_56 ze_29 rfl rfl ?_))
        refine AL.no ?_
        refine AL.op rfl (op_append rfl ap_56 rfl rfl (src_s rfl) (by simp [rowsA_len]; omega) (by simp [rowsA_len]; omega) ?_)
        refine AL.no ?_
        refine AL.ra ?_
        refine AL.nil ?_
        change AW _ _ _ _ _
        refine AW.seq ?_
        refine AW.region ?_
        refine AL.rm ?_
        refine AL.rm ?_
        refine AL.r (rd_iaddr_sl rfl el_49 rfl rfl rfl (get_mapA (by omega)) rfl) ?_
        refine AL.r (rd_faddr_ep rfl fo_60_0 rfl) ?_
        refine AL.r (rd_load_ep rfl ag_3 rfl rfl) ?_
        refine AL.r (rd_bin rfl rfl rfl (fun _ => rfl)) ?_
        refine AL.rm ?_
        refine AL.fk (d := 98) rfl (fun h98 => ?_) (fun h98 => ?_)
        ·skip
         omega
        ·skip
         refine AL.n ?_
         refine AL.rf ?_
         refine AL.rf ?_
         refine AL.rf ?_
         refine AL.r (rd_pick_f rfl rfl rfl) ?_
         refine AL.nil ?_
         change AW _ _ _ _ _
         refine AW.cond_f rfl ?_
         refine AW.skip ?_
         change AW _ _ _ _ _
         refine AW.region ?_
         refine AL.rm ?_
         refine AL.r (rd_arith_add rfl rfl rfl (by first | exact IntWalk.i64_in _ (by omega) | rfl)) ?_
         refine AL.ra ?_
         refine AL.nil ?_
         first
           | refine ⟨(k + 1, rs ++ [l[k].b], s, addL byteN L d l[k].b, addD byteN L d l[k].b, g + 1), ?_, ?_, ?_, ?_⟩
             ·exact hJ.addI hll hkl h69 (add_live hJ h80)
             ·first | omega | (simp only []; omega)
             ·simp only [anys, upds, offs, List.set_cons_zero, List.set_cons_succ]; repeat (first | exact Wk.nil | refine Wk.same ?_ | refine Wk.any ?_)
             ·simp only [anys, upds, offs, List.set_cons_zero, List.set_cons_succ]; repeat (first | exact Sk.nil _ | refine Sk.same _ ?_ | refine Sk.scr _ (by decide) ?_ | refine Sk.eq _ (by simp [rowsA]) ?_)
           | refine ⟨(k + 1, rs ++ [l[k].b], s, addL byteN L d l[k].b, addD byteN L d l[k].b, g + 1), ?_, ?_, ?_, ?_⟩
             ·exact hJ.addI hll hkl h69 h83
             ·first | omega | (simp only []; omega)
             ·simp only [anys, upds, offs, List.set_cons_zero, List.set_cons_succ]; repeat (first | exact Wk.nil | refine Wk.same ?_ | refine Wk.any ?_)
             ·simp only [anys, upds, offs, List.set_cons_zero, List.set_cons_succ]; repeat (first | exact Sk.nil _ | refine Sk.same _ ?_ | refine Sk.scr _ (by decide) ?_ | refine Sk.eq _ (by simp [rowsA]) ?_)
           | refine ⟨(k + 1, rs, s, addL byteN L d l[k].b, addD byteN L d l[k].b, g), ?_, ?_, ?_, ?_⟩
             ·exact hJ.dark hkl h83
             ·first | omega | (simp only []; omega)
             ·simp only [anys, upds, offs, List.set_cons_zero, List.set_cons_succ]; repeat (first | exact Wk.nil | refine Wk.same ?_ | refine Wk.any ?_)
             ·simp only [anys, upds, offs, List.set_cons_zero, List.set_cons_succ]; repeat (first | exact Sk.nil _ | refine Sk.same _ ?_ | refine Sk.scr _ (by decide) ?_ | refine Sk.eq _ (by simp [rowsA]) ?_)
           | refine ⟨(k + 1, rs, rs.length, lsyncL L d, lsyncD L d, g), ?_, ?_, ?_, ?_⟩
             ·exact hJ.sync hkl h102
             ·first | omega | (simp only []; omega)
             ·simp only [anys, upds, offs, List.set_cons_zero, List.set_cons_succ]; repeat (first | exact Wk.nil | refine Wk.same ?_ | refine Wk.any ?_)
             ·simp only [anys, upds, offs, List.set_cons_zero, List.set_cons_succ]; repeat (first | exact Sk.nil _ | refine Sk.same _ ?_ | refine Sk.scr _ (by decide) ?_ | refine Sk.eq _ (by simp [rowsA]) ?_)
           | refine ⟨(k + 1, rs, s, lsyncL L d, lsyncD L d, g), ?_, ?_, ?_, ?_⟩
             ·exact hJ.nosync hkl h102
             ·first | omega | (simp only []; omega)
             ·simp only [anys, upds, offs, List.set_cons_zero, List.set_cons_succ]; repeat (first | exact Wk.nil | refine Wk.same ?_ | refine Wk.any ?_)
             ·simp only [anys, upds, offs, List.set_cons_zero, List.set_cons_succ]; repeat (first | exact Sk.nil _ | refine Sk.same _ ?_ | refine Sk.scr _ (by decide) ?_ | refine Sk.eq _ (by simp [rowsA]) ?_)
           | refine ⟨(k + 1, rs, s, L, d, g), ?_, ?_, ?_, ?_⟩
             ·exact hJ.skip hkl
             ·first | omega | (simp only []; omega)
             ·simp only [anys, upds, offs, List.set_cons_zero, List.set_cons_succ]; repeat (first | exact Wk.nil | refine Wk.same ?_ | refine Wk.any ?_)
             ·simp only [anys, upds, offs, List.set_cons_zero, List.set_cons_succ]; repeat (first | exact Sk.nil _ | refine Sk.same _ ?_ | refine Sk.scr _ (by decide) ?_ | refine Sk.eq _ (by simp [rowsA]) ?_)
       ·skip
        refine AW.skip ?_
        change AW _ _ _ _ _
        refine AW.seq ?_
        refine AW.region ?_
        refine AL.rm ?_
        refine AL.rm ?_
        refine AL.r (rd_iaddr_sl rfl el_49 rfl rfl rfl (get_mapA (by omega)) rfl) ?_
        refine AL.r (rd_faddr_ep rfl fo_60_0 rfl) ?_
        refine AL.r (rd_load_ep rfl ag_3 rfl rfl) ?_
        refine AL.r (rd_bin rfl rfl rfl (fun _ => rfl)) ?_
        refine AL.rm ?_
        refine AL.fk (d := 98) rfl (fun h98 => ?_) (fun h98 => ?_)
        ·skip
         omega
        ·skip
         refine AL.n ?_
         refine AL.rf ?_
         refine AL.rf ?_
         refine AL.rf ?_
         refine AL.r (rd_pick_f rfl rfl rfl) ?_
         refine AL.nil ?_
         change AW _ _ _ _ _
         refine AW.cond_f rfl ?_
         refine AW.skip ?_
         change AW _ _ _ _ _
         refine AW.region ?_
         refine AL.rm ?_
         refine AL.r (rd_arith_add rfl rfl rfl (by first | exact IntWalk.i64_in _ (by omega) | rfl)) ?_
         refine AL.ra ?_
         refine AL.nil ?_
         first
           | refine ⟨(k + 1, rs ++ [l[k].b], s, addL byteN L d l[k].b, addD byteN L d l[k].b, g + 1), ?_, ?_, ?_, ?_⟩
             ·exact hJ.addI hll hkl h69 (add_live hJ h80)
             ·first | omega | (simp only []; omega)
             ·simp only [anys, upds, offs, List.set_cons_zero, List.set_cons_succ]; repeat (first | exact Wk.nil | refine Wk.same ?_ | refine Wk.any ?_)
             ·simp only [anys, upds, offs, List.set_cons_zero, List.set_cons_succ]; repeat (first | exact Sk.nil _ | refine Sk.same _ ?_ | refine Sk.scr _ (by decide) ?_ | refine Sk.eq _ (by simp [rowsA]) ?_)
           | refine ⟨(k + 1, rs ++ [l[k].b], s, addL byteN L d l[k].b, addD byteN L d l[k].b, g + 1), ?_, ?_, ?_, ?_⟩
             ·exact hJ.addI hll hkl h69 h83
             ·first | omega | (simp only []; omega)
             ·simp only [anys, upds, offs, List.set_cons_zero, List.set_cons_succ]; repeat (first | exact Wk.nil | refine Wk.same ?_ | refine Wk.any ?_)
             ·simp only [anys, upds, offs, List.set_cons_zero, List.set_cons_succ]; repeat (first | exact Sk.nil _ | refine Sk.same _ ?_ | refine Sk.scr _ (by decide) ?_ | refine Sk.eq _ (by simp [rowsA]) ?_)
           | refine ⟨(k + 1, rs, s, addL byteN L d l[k].b, addD byteN L d l[k].b, g), ?_, ?_, ?_, ?_⟩
             ·exact hJ.dark hkl h83
             ·first | omega | (simp only []; omega)
             ·simp only [anys, upds, offs, List.set_cons_zero, List.set_cons_succ]; repeat (first | exact Wk.nil | refine Wk.same ?_ | refine Wk.any ?_)
             ·simp only [anys, upds, offs, List.set_cons_zero, List.set_cons_succ]; repeat (first | exact Sk.nil _ | refine Sk.same _ ?_ | refine Sk.scr _ (by decide) ?_ | refine Sk.eq _ (by simp [rowsA]) ?_)
           | refine ⟨(k + 1, rs, rs.length, lsyncL L d, lsyncD L d, g), ?_, ?_, ?_, ?_⟩
             ·exact hJ.sync hkl h102
             ·first | omega | (simp only []; omega)
             ·simp only [anys, upds, offs, List.set_cons_zero, List.set_cons_succ]; repeat (first | exact Wk.nil | refine Wk.same ?_ | refine Wk.any ?_)
             ·simp only [anys, upds, offs, List.set_cons_zero, List.set_cons_succ]; repeat (first | exact Sk.nil _ | refine Sk.same _ ?_ | refine Sk.scr _ (by decide) ?_ | refine Sk.eq _ (by simp [rowsA]) ?_)
           | refine ⟨(k + 1, rs, s, lsyncL L d, lsyncD L d, g), ?_, ?_, ?_, ?_⟩
             ·exact hJ.nosync hkl h102
             ·first | omega | (simp only []; omega)
             ·simp only [anys, upds, offs, List.set_cons_zero, List.set_cons_succ]; repeat (first | exact Wk.nil | refine Wk.same ?_ | refine Wk.any ?_)
             ·simp only [anys, upds, offs, List.set_cons_zero, List.set_cons_succ]; repeat (first | exact Sk.nil _ | refine Sk.same _ ?_ | refine Sk.scr _ (by decide) ?_ | refine Sk.eq _ (by simp [rowsA]) ?_)
           | refine ⟨(k + 1, rs, s, L, d, g), ?_, ?_, ?_, ?_⟩
             ·exact hJ.skip hkl
             ·first | omega | (simp only []; omega)
             ·simp only [anys, upds, offs, List.set_cons_zero, List.set_cons_succ]; repeat (first | exact Wk.nil | refine Wk.same ?_ | refine Wk.any ?_)
             ·simp only [anys, upds, offs, List.set_cons_zero, List.set_cons_succ]; repeat (first | exact Sk.nil _ | refine Sk.same _ ?_ | refine Sk.scr _ (by decide) ?_ | refine Sk.eq _ (by simp [rowsA]) ?_)
     ·skip
      refine AW.skip ?_
      change AW _ _ _ _ _
      refine AW.seq ?_
      refine AW.region ?_
      refine AL.rm ?_
      refine AL.rm ?_
      refine AL.r (rd_iaddr_sl rfl el_49 rfl rfl rfl (get_mapA (by omega)) rfl) ?_
      refine AL.r (rd_faddr_ep rfl fo_60_0 rfl) ?_
      refine AL.r (rd_load_ep rfl ag_3 rfl rfl) ?_
      refine AL.r (rd_bin rfl rfl rfl (fun _ => rfl)) ?_
      refine AL.rm ?_
      refine AL.fk (d := 98) rfl (fun h98 => ?_) (fun h98 => ?_)
      ·skip
       omega
      ·skip
       refine AL.n ?_
       refine AL.rf ?_
       refine AL.rf ?_
       refine AL.rf ?_
       refine AL.r (rd_pick_f rfl rfl rfl) ?_
       refine AL.nil ?_
       change AW _ _ _ _ _
       refine AW.cond_f rfl ?_
       refine AW.skip ?_
       change AW _ _ _ _ _
       refine AW.region ?_
       refine AL.rm ?_
       refine AL.r (rd_arith_add rfl rfl rfl (by first | exact IntWalk.i64_in _ (by omega) | rfl)) ?_
       refine AL.ra ?_
       refine AL.nil ?_
       first
         | refine ⟨(k + 1, rs ++ [l[k].b], s, addL byteN L d l[k].b, addD byteN L d l[k].b, g + 1), ?_, ?_, ?_, ?_⟩
           ·exact hJ.addI hll hkl h69 (add_live hJ h80)
           ·first | omega | (simp only []; omega)
           ·simp only [anys, upds, offs, List.set_cons_zero, List.set_cons_succ]; repeat (first | exact Wk.nil | refine Wk.same ?_ | refine Wk.any ?_)
           ·simp only [anys, upds, offs, List.set_cons_zero, List.set_cons_succ]; repeat (first | exact Sk.nil _ | refine Sk.same _ ?_ | refine Sk.scr _ (by decide) ?_ | refine Sk.eq _ (by simp [rowsA]) ?_)
         | refine ⟨(k + 1, rs ++ [l[k].b], s, addL byteN L d l[k].b, addD byteN L d l[k].b, g + 1), ?_, ?_, ?_, ?_⟩
           ·exact hJ.addI hll hkl h69 h83
           ·first | omega | (simp only []; omega)
           ·simp only [anys, upds, offs, List.set_cons_zero, List.set_cons_succ]; repeat (first | exact Wk.nil | refine Wk.same ?_ | refine Wk.any ?_)
           ·simp only [anys, upds, offs, List.set_cons_zero, List.set_cons_succ]; repeat (first | exact Sk.nil _ | refine Sk.same _ ?_ | refine Sk.scr _ (by decide) ?_ | refine Sk.eq _ (by simp [rowsA]) ?_)
         | refine ⟨(k + 1, rs, s, addL byteN L d l[k].b, addD byteN L d l[k].b, g), ?_, ?_, ?_, ?_⟩
           ·exact hJ.dark hkl h83
           ·first | omega | (simp only []; omega)
           ·simp only [anys, upds, offs, List.set_cons_zero, List.set_cons_succ]; repeat (first | exact Wk.nil | refine Wk.same ?_ | refine Wk.any ?_)
           ·simp only [anys, upds, offs, List.set_cons_zero, List.set_cons_succ]; repeat (first | exact Sk.nil _ | refine Sk.same _ ?_ | refine Sk.scr _ (by decide) ?_ | refine Sk.eq _ (by simp [rowsA]) ?_)
         | refine ⟨(k + 1, rs, rs.length, lsyncL L d, lsyncD L d, g), ?_, ?_, ?_, ?_⟩
           ·exact hJ.sync hkl h102
           ·first | omega | (simp only []; omega)
           ·simp only [anys, upds, offs, List.set_cons_zero, List.set_cons_succ]; repeat (first | exact Wk.nil | refine Wk.same ?_ | refine Wk.any ?_)
           ·simp only [anys, upds, offs, List.set_cons_zero, List.set_cons_succ]; repeat (first | exact Sk.nil _ | refine Sk.same _ ?_ | refine Sk.scr _ (by decide) ?_ | refine Sk.eq _ (by simp [rowsA]) ?_)
         | refine ⟨(k + 1, rs, s, lsyncL L d, lsyncD L d, g), ?_, ?_, ?_, ?_⟩
           ·exact hJ.nosync hkl h102
           ·first | omega | (simp only []; omega)
           ·simp only [anys, upds, offs, List.set_cons_zero, List.set_cons_succ]; repeat (first | exact Wk.nil | refine Wk.same ?_ | refine Wk.any ?_)
           ·simp only [anys, upds, offs, List.set_cons_zero, List.set_cons_succ]; repeat (first | exact Sk.nil _ | refine Sk.same _ ?_ | refine Sk.scr _ (by decide) ?_ | refine Sk.eq _ (by simp [rowsA]) ?_)
         | refine ⟨(k + 1, rs, s, L, d, g), ?_, ?_, ?_, ?_⟩
           ·exact hJ.skip hkl
           ·first | omega | (simp only []; omega)
           ·simp only [anys, upds, offs, List.set_cons_zero, List.set_cons_succ]; repeat (first | exact Wk.nil | refine Wk.same ?_ | refine Wk.any ?_)
           ·simp only [anys, upds, offs, List.set_cons_zero, List.set_cons_succ]; repeat (first | exact Sk.nil _ | refine Sk.same _ ?_ | refine Sk.scr _ (by decide) ?_ | refine Sk.eq _ (by simp [rowsA]) ?_)
    ·skip
     refine AL.n ?_
     refine AL.rf ?_
     refine AL.rf ?_
     refine AL.rf ?_
     refine AL.rf ?_
     refine AL.rf ?_
     refine AL.rf ?_
     refine AL.rf ?_
     refine AL.r (rd_pick_f rfl rfl rfl) ?_
     refine AL.nil ?_
     change AW _ _ _ _ _
     refine AW.cond_f rfl ?_
     refine AW.skip ?_
     change AW _ _ _ _ _
     refine AW.seq ?_
     refine AW.region ?_
     refine AL.rm ?_
     refine AL.rm ?_
     refine AL.r (rd_iaddr_sl rfl el_49 rfl rfl rfl (get_mapA (by omega)) rfl) ?_
     refine AL.r (rd_faddr_ep rfl fo_60_0 rfl) ?_
     refine AL.r (rd_load_ep rfl ag_3 rfl rfl) ?_
     refine AL.r (rd_bin rfl rfl rfl (fun _ => rfl)) ?_
     refine AL.rm ?_
     refine AL.fk (d := 98) rfl (fun h98 => ?_) (fun h98 => ?_)
     ·skip
      refine AL.n ?_
      refine AL.ro (rd_move rfl rfl) ?_
      refine AL.on rfl rfl rfl (calloL (lsync_c 1 1 byteN L d hJ.li.gro.ok (by omega)) [1, 0] ?_)
      rintro y os' ⟨rfl, rfl⟩
      refine AL.noL ?_
      refine AL.ro (rd_bin rfl rfl rfl (fun _ => rfl)) ?_
      refine AL.r (rd_pick_t rfl rfl rfl) ?_
      refine AL.nil ?_
      change AW _ _ _ _ _
      refine AW.cd rfl (fun h102 => ?_) (fun h102 => ?_)
      ·skip
       refine AW.region ?_
       refine AL.rm ?_
       refine AL.r (rd_len_ow rfl el_56 rfl rfl) ?_
       rw [rowsA_len]
       refine AL.ra ?_
       refine AL.nil ?_
       change AW _ _ _ _ _
       refine AW.region ?_
       refine AL.rm ?_
       refine AL.r (rd_arith_add rfl rfl rfl (by first | exact IntWalk.i64_in _ (by omega) | rfl)) ?_
       refine AL.ra ?_
       refine AL.nil ?_
       first
         | refine ⟨(k + 1, rs ++ [l[k].b], s, addL byteN L d l[k].b, addD byteN L d l[k].b, g + 1), ?_, ?_, ?_, ?_⟩
           ·exact hJ.addI hll hkl h69 (add_live hJ h80)
           ·first | omega | (simp only []; omega)
           ·simp only [anys, upds, offs, List.set_cons_zero, List.set_cons_succ]; repeat (first | exact Wk.nil | refine Wk.same ?_ | refine Wk.any ?_)
           ·simp only [anys, upds, offs, List.set_cons_zero, List.set_cons_succ]; repeat (first | exact Sk.nil _ | refine Sk.same _ ?_ | refine Sk.scr _ (by decide) ?_ | refine Sk.eq _ (by simp [rowsA]) ?_)
         | refine ⟨(k + 1, rs ++ [l[k].b], s, addL byteN L d l[k].b, addD byteN L d l[k].b, g + 1), ?_, ?_, ?_, ?_⟩
           ·exact hJ.addI hll hkl h69 h83
           ·first | omega | (simp only []; omega)
           ·simp only [anys, upds, offs, List.set_cons_zero, List.set_cons_succ]; repeat (first | exact Wk.nil | refine Wk.same ?_ | refine Wk.any ?_)
           ·simp only [anys, upds, offs, List.set_cons_zero, List.set_cons_succ]; repeat (first | exact Sk.nil _ | refine Sk.same _ ?_ | refine Sk.scr _ (by decide) ?_ | refine Sk.eq _ (by simp [rowsA]) ?_)
         | refine ⟨(k + 1, rs, s, addL byteN L d l[k].b, addD byteN L d l[k].b, g), ?_, ?_, ?_, ?_⟩
           ·exact hJ.dark hkl h83
           ·first | omega | (simp only []; omega)
           ·simp only [anys, upds, offs, List.set_cons_zero, List.set_cons_succ]; repeat (first | exact Wk.nil | refine Wk.same ?_ | refine Wk.any ?_)
           ·simp only [anys, upds, offs, List.set_cons_zero, List.set_cons_succ]; repeat (first | exact Sk.nil _ | refine Sk.same _ ?_ | refine Sk.scr _ (by decide) ?_ | refine Sk.eq _ (by simp [rowsA]) ?_)
         | refine ⟨(k + 1, rs, rs.length, lsyncL L d, lsyncD L d, g), ?_, ?_, ?_, ?_⟩
           ·exact hJ.sync hkl h102
           ·first | omega | (simp only []; omega)
           ·simp only [anys, upds, offs, List.set_cons_zero, List.set_cons_succ]; repeat (first | exact Wk.nil | refine Wk.same ?_ | refine Wk.any ?_)
           ·simp only [anys, upds, offs, List.set_cons_zero, List.set_cons_succ]; repeat (first | exact Sk.nil _ | refine Sk.same _ ?_ | refine Sk.scr _ (by decide) ?_ | refine Sk.eq _ (by simp [rowsA]) ?_)
         | refine ⟨(k + 1, rs, s, lsyncL L d, lsyncD L d, g), ?_, ?_, ?_, ?_⟩
           ·exact hJ.nosync hkl h102
           ·first | omega | (simp only []; omega)
           ·simp only [anys, upds, offs, List.set_cons_zero, List.set_cons_succ]; repeat (first | exact Wk.nil | refine Wk.same ?_ | refine Wk.any ?_)
           ·simp only [anys, upds, offs, List.set_cons_zero, List.set_cons_succ]; repeat (first | exact Sk.nil _ | refine Sk.same _ ?_ | refine Sk.scr _ (by decide) ?_ | refine Sk.eq _ (by simp [rowsA]) ?_)
         | refine ⟨(k + 1, rs, s, L, d, g), ?_, ?_, ?_, ?_⟩
           ·exact hJ.skip hkl
           ·first | omega | (simp only []; omega)
           ·simp only [anys, upds, offs, List.set_cons_zero, List.set_cons_succ]; repeat (first | exact Wk.nil | refine Wk.same ?_ | refine Wk.any ?_)
           ·simp only [anys, upds, offs, List.set_cons_zero, List.set_cons_succ]; repeat (first | exact Sk.nil _ | refine Sk.same _ ?_ | refine Sk.scr _ (by decide) ?_ | refine Sk.eq _ (by simp [rowsA]) ?_)
      ·skip
       refine AW.skip ?_
       change AW _ _ _ _ _
       refine AW.region ?_
       refine AL.rm ?_
       refine AL.r (rd_arith_add rfl rfl rfl (by first | exact IntWalk.i64_in _ (by omega) | rfl)) ?_
       refine AL.ra ?_
       refine AL.nil ?_
       first
         | refine ⟨(k + 1, rs ++ [l[k].b], s, addL byteN L d l[k].b, addD byteN L d l[k].b, g + 1), ?_, ?_, ?_, ?_⟩
           ·exact hJ.addI hll hkl h69 (add_live hJ h80)
           ·first | omega | (simp only []; omega)
           ·simp only [anys, upds, offs, List.set_cons_zero, List.set_cons_succ]; repeat (first | exact Wk.nil | refine Wk.same ?_ | refine Wk.any ?_)
           ·simp only [anys, upds, offs, List.set_cons_zero, List.set_cons_succ]; repeat (first | exact Sk.nil _ | refine Sk.same _ ?_ | refine Sk.scr _ (by decide) ?_ | refine Sk.eq _ (by simp [rowsA]) ?_)
         | refine ⟨(k + 1, rs ++ [l[k].b], s, addL byteN L d l[k].b, addD byteN L d l[k].b, g + 1), ?_, ?_, ?_, ?_⟩
           ·exact hJ.addI hll hkl h69 h83
           ·first | omega | (simp only []; omega)
           ·simp only [anys, upds, offs, List.set_cons_zero, List.set_cons_succ]; repeat (first | exact Wk.nil | refine Wk.same ?_ | refine Wk.any ?_)
           ·simp only [anys, upds, offs, List.set_cons_zero, List.set_cons_succ]; repeat (first | exact Sk.nil _ | refine Sk.same _ ?_ | refine Sk.scr _ (by decide) ?_ | refine Sk.eq _ (by simp [rowsA]) ?_)
         | refine ⟨(k + 1, rs, s, addL byteN L d l[k].b, addD byteN L d l[k].b, g), ?_, ?_, ?_, ?_⟩
           ·exact hJ.dark hkl h83
           ·first | omega | (simp only []; omega)
           ·simp only [anys, upds, offs, List.set_cons_zero, List.set_cons_succ]; repeat (first | exact Wk.nil | refine Wk.same ?_ | refine Wk.any ?_)
           ·simp only [anys, upds, offs, List.set_cons_zero, List.set_cons_succ]; repeat (first | exact Sk.nil _ | refine Sk.same _ ?_ | refine Sk.scr _ (by decide) ?_ | refine Sk.eq _ (by simp [rowsA]) ?_)
         | refine ⟨(k + 1, rs, rs.length, lsyncL L d, lsyncD L d, g), ?_, ?_, ?_, ?_⟩
           ·exact hJ.sync hkl h102
           ·first | omega | (simp only []; omega)
           ·simp only [anys, upds, offs, List.set_cons_zero, List.set_cons_succ]; repeat (first | exact Wk.nil | refine Wk.same ?_ | refine Wk.any ?_)
           ·simp only [anys, upds, offs, List.set_cons_zero, List.set_cons_succ]; repeat (first | exact Sk.nil _ | refine Sk.same _ ?_ | refine Sk.scr _ (by decide) ?_ | refine Sk.eq _ (by simp [rowsA]) ?_)
         | refine ⟨(k + 1, rs, s, lsyncL L d, lsyncD L d, g), ?_, ?_, ?_, ?_⟩
           ·exact hJ.nosync hkl h102
           ·first | omega | (simp only []; omega)
           ·simp only [anys, upds, offs, List.set_cons_zero, List.set_cons_succ]; repeat (first | exact Wk.nil | refine Wk.same ?_ | refine Wk.any ?_)
           ·simp only [anys, upds, offs, List.set_cons_zero, List.set_cons_succ]; repeat (first | exact Sk.nil _ | refine Sk.same _ ?_ | refine Sk.scr _ (by decide) ?_ | refine Sk.eq _ (by simp [rowsA]) ?_)
         | refine ⟨(k + 1, rs, s, L, d, g), ?_, ?_, ?_, ?_⟩
           ·exact hJ.skip hkl
           ·first | omega | (simp only []; omega)
           ·simp only [anys, upds, offs, List.set_cons_zero, List.set_cons_succ]; repeat (first | exact Wk.nil | refine Wk.same ?_ | refine Wk.any ?_)
           ·simp only [anys, upds, offs, List.set_cons_zero, List.set_cons_succ]; repeat (first | exact Sk.nil _ | refine Sk.same _ ?_ | refine Sk.scr _ (by decide) ?_ | refine Sk.eq _ (by simp [rowsA]) ?_)
     ·skip
      refine AL.n ?_
      refine AL.rf ?_
      refine AL.rf ?_
      refine AL.rf ?_
      refine AL.r (rd_pick_f rfl rfl rfl) ?_
      refine AL.nil ?_
      change AW _ _ _ _ _
      refine AW.cond_f rfl ?_
      refine AW.skip ?_
      change AW _ _ _ _ _
      refine AW.region ?_
      refine AL.rm ?_
      refine AL.r (rd_arith_add rfl rfl rfl (by first | exact IntWalk.i64_in _ (by omega) | rfl)) ?_
      refine AL.ra ?_
      refine AL.nil ?_
      first
        | refine ⟨(k + 1, rs ++ [l[k].b], s, addL byteN L d l[k].b, addD byteN L d l[k].b, g + 1), ?_, ?_, ?_, ?_⟩
          ·exact hJ.addI hll hkl h69 (add_live hJ h80)
          ·first | omega | (simp only []; omega)
          ·simp only [anys, upds, offs, List.set_cons_zero, List.set_cons_succ]; repeat (first | exact Wk.nil | refine Wk.same ?_ | refine Wk.any ?_)
          ·simp only [anys, upds, offs, List.set_cons_zero, List.set_cons_succ]; repeat (first | exact Sk.nil _ | refine Sk.same _ ?_ | refine Sk.scr _ (by decide) ?_ | refine Sk.eq _ (by simp [rowsA]) ?_)
        | refine ⟨(k + 1, rs ++ [l[k].b], s, addL byteN L d l[k].b, addD byteN L d l[k].b, g + 1), ?_, ?_, ?_, ?_⟩
          ·exact hJ.addI hll hkl h69 h83
          ·first | omega | (simp only []; omega)
          ·simp only [anys, upds, offs, List.set_cons_zero, List.set_cons_succ]; repeat (first | exact Wk.nil | refine Wk.same ?_ | refine Wk.any ?_)
          ·simp only [anys, upds, offs, List.set_cons_zero, List.set_cons_succ]; repeat (first | exact Sk.nil _ | refine Sk.same _ ?_ | refine Sk.scr _ (by decide) ?_ | refine Sk.eq _ (by simp [rowsA]) ?_)
        | refine ⟨(k + 1, rs, s, addL byteN L d l[k].b, addD byteN L d l[k].b, g), ?_, ?_, ?_, ?_⟩
          ·exact hJ.dark hkl h83
          ·first | omega | (simp only []; omega)
          ·simp only [anys, upds, offs, List.set_cons_zero, List.set_cons_succ]; repeat (first | exact Wk.nil | refine Wk.same ?_ | refine Wk.any ?_)
          ·simp only [anys, upds, offs, List.set_cons_zero, List.set_cons_succ]; repeat (first | exact Sk.nil _ | refine Sk.same _ ?_ | refine Sk.scr _ (by decide) ?_ | refine Sk.eq _ (by simp [rowsA]) ?_)
        | refine ⟨(k + 1, rs, rs.length, lsyncL L d, lsyncD L d, g), ?_, ?_, ?_, ?_⟩
          ·exact hJ.sync hkl h102
          ·first | omega | (simp only []; omega)
          ·simp only [anys, upds, offs, List.set_cons_zero, List.set_cons_succ]; repeat (first | exact Wk.nil | refine Wk.same ?_ | refine Wk.any ?_)
          ·simp only [anys, upds, offs, List.set_cons_zero, List.set_cons_succ]; repeat (first | exact Sk.nil _ | refine Sk.same _ ?_ | refine Sk.scr _ (by decide) ?_ | refine Sk.eq _ (by simp [rowsA]) ?_)
        | refine ⟨(k + 1, rs, s, lsyncL L d, lsyncD L d, g), ?_, ?_, ?_, ?_⟩
          ·exact hJ.nosync hkl h102
          ·first | omega | (simp only []; omega)
          ·simp only [anys, upds, offs, List.set_cons_zero, List.set_cons_succ]; repeat (first | exact Wk.nil | refine Wk.same ?_ | refine Wk.any ?_)
          ·simp only [anys, upds, offs, List.set_cons_zero, List.set_cons_succ]; repeat (first | exact Sk.nil _ | refine Sk.same _ ?_ | refine Sk.scr _ (by decide) ?_ | refine Sk.eq _ (by simp [rowsA]) ?_)
        | refine ⟨(k + 1, rs, s, L, d, g), ?_, ?_, ?_, ?_⟩
          ·exact hJ.skip hkl
          ·first | omega | (simp only []; omega)
          ·simp only [anys, upds, offs, List.set_cons_zero, List.set_cons_succ]; repeat (first | exact Wk.nil | refine Wk.same ?_ | refine Wk.any ?_)
          ·simp only [anys, upds, offs, List.set_cons_zero, List.set_cons_succ]; repeat (first | exact Sk.nil _ | refine Sk.same _ ?_ | refine Sk.scr _ (by decide) ?_ | refine Sk.eq _ (by simp [rowsA]) ?_)
   ·skip
    refine AW.exit ?_
    change AW _ _ _ _ _
    refine AW.seq ?_
    refine AW.region ?_
    have hC := hJ.li.gro.ok.crash keep
    have hO := openD_Ok (t := byteN) (hC.fuseD again hag) (f := 3) (by omega)
    obtain ⟨m, p, e1, e2, e3, e4, e5⟩ := lasts_after hJ keep again keep2 hag
    have hl6 := hJ.li.lens
    obtain ⟨f1, f2⟩ := e5.next hl6 e3 e4
    have hcl := LF.clean byteN rs m
    have hml : (rs.take m).length = m := (by rw [List.length_take]; omega)
    refine AL.rm ?_
    refine AL.rm ?_
    refine AL.op rfl (calloL (ok_crash hJ.li.gro.ok (by omega) 1 keep hke) [0] ?_)
    rintro y os' ⟨rfl, rfl⟩
    refine AL.noL ?_
    refine AL.nil ?_
    change AW _ _ _ _ _
    refine AW.seq ?_
    refine AW.region ?_
    refine AL.rm ?_
    refine AL.rm ?_
    refine AL.op rfl (calloL (od_fuse (crashD d keep) 1 again) [0] ?_)
    rintro y os' ⟨rfl, rfl⟩
    refine AL.noL ?_
    refine AL.nil ?_
    change AW _ _ _ _ _
    refine AW.seq ?_
    refine AW.region ?_
    refine AL.rm ?_
    refine AL.r (rd_tab0 rfl ag_53 rfl rfl) ?_
    refine AL.op rfl (calloL (lopen_any byteN byte_tab (fuseD (crashD d keep) again) (hC.fuseD again hag) (by omega) 1 0 3 (by omega)) [0, 2] ?_)
    rintro y os' ⟨Y, tk, rfl, rfl⟩
    refine AL.noL ?_
    refine AL.nil ?_
    change AW _ _ _ _ _
    refine AW.seq ?_
    refine AW.region ?_
    refine AL.rm ?_
    refine AL.rm ?_
    refine AL.op rfl (calloL (ok_crash hO (by omega) 1 keep2 hke2) [0] ?_)
    rintro y os' ⟨rfl, rfl⟩
    refine AL.noL ?_
    refine AL.nil ?_
    change AW _ _ _ _ _
    refine AW.seq ?_
    refine AW.region ?_
    refine AL.rm ?_
    refine AL.r (rd_tab0 rfl ag_53 rfl rfl) ?_
    refine AL.op rfl (calloL (lopen1 byteN byte_tab (lE d keep again keep2) e3.gro.ok (by omega) 1 0 3 (by omega) e3 e4 (e5.of hl6 e3)) [0, 3] ?_)
    rintro y os' ⟨rfl, rfl⟩
    refine AL.noL ?_
    refine AL.rm ?_
    refine AL.r (rd_extract rfl rfl rfl) ?_
    refine AL.r (rd_extract rfl rfl rfl) ?_
    refine AL.r (rd_extract rfl rfl rfl) ?_
    refine AL.ra ?_
    refine AL.ra ?_
    refine AL.ra ?_
    refine AL.nil ?_
    change AW _ _ _ _ _
    refine AW.seq ?_
    refine AW.seq ?_
    refine AW.region ?_
    refine AL.settle 17 rfl rfl (by first | rfl | exact cont_owM _ _ _ _) ?_
    refine AL.no ?_
    refine AL.rm ?_
    refine AL.r (rd_bin rfl rfl rfl (fun _ => rfl)) ?_
    refine AL.rm ?_
    refine AL.ro (rd_move rfl rfl) ?_
    refine AL.ro (rd_len_sl rfl el_56 rfl) ?_
    refine AL.ro (rd_move rfl rfl) ?_
    refine AL.ro (rd_bin rfl rfl rfl (fun _ => rfl)) ?_
    refine AL.r (rd_pick_f rfl rfl rfl) ?_
    refine AL.rm ?_
    refine AL.fk (d := 132) rfl (fun h132 => ?_) (fun h132 => ?_)
    ·skip
     (simp only [rowsA_len] at h132; omega)
    ·skip
     refine AL.n ?_
     refine AL.ro (rd_move rfl rfl) ?_
     refine AL.ro (rd_len_sl rfl el_56 rfl) ?_
     refine AL.ro (rd_move rfl rfl) ?_
     refine AL.ro (rd_len_sl rfl el_56 rfl) ?_
     refine AL.ro (rd_bin rfl rfl rfl (fun _ => rfl)) ?_
     refine AL.r (rd_pick_f rfl rfl rfl) ?_
     refine AL.rm ?_
     refine AL.fk (d := 139) rfl (fun h139 => ?_) (fun h139 => ?_)
     ·skip
      (simp only [rowsA_len] at h139; omega)
     ·skip
      refine AL.n ?_
      refine AL.ro (rd_move rfl rfl) ?_
      refine AL.ro (rd_move rfl rfl) ?_
      refine AL.ro (rd_move rfl rfl) ?_
      refine AL.ro (rd_len_sl rfl el_56 rfl) ?_
      refine AL.ro (rd_slice_sl rfl el_56 rfl rows_one rfl ⟨_, _, rfl, rfl⟩ (Nat.zero_le _) (by simp only [rowsA_len]; omega)) ?_
      rw [rows_take, rowsA_len, hml]
      refine AL.on rfl rfl rfl (AOpB.op (op_call (rsame_t (rs.take m)) rfl (by kernel_rfl) rfl (none) ?_))
      rintro r rfl
      refine AL.no ?_
      refine AL.ro (rd_un rfl rfl (fun _ => rfl)) ?_
      refine AL.r (rd_pick_f rfl rfl rfl) ?_
      refine AL.rm ?_
      refine AL.ro (rd_move rfl rfl) ?_
      refine AL.on rfl rfl rfl (calloL (lval (od_waits (openD byteN (lE d keep again keep2) 3) 1) f1.waits) [0] ?_)
      rintro y os' ⟨rfl, rfl⟩
      refine AL.noL ?_
      refine AL.ro (rd_bin rfl rfl rfl (fun _ => rfl)) ?_
      refine AL.r (rd_pick_f rfl rfl rfl) ?_
      refine AL.rm ?_
      refine AL.ro (rd_move rfl rfl) ?_
      refine AL.on rfl rfl rfl (calloL (lrec_v (t := byteN) (L := ⟨3, false, (m : Nat), ((scanN byteN ((lE d keep again keep2).n 3)).2 : Nat), 0⟩) (d := openD byteN (lE d keep again keep2) 3) rfl) [3, 0] ?_)
      rintro y os' ⟨rfl, rfl⟩
      refine AL.noL ?_
      refine AL.ro (rd_move rfl rfl) ?_
      refine AL.ro (rd_len_sl rfl el_56 rfl) ?_
      refine AL.ro (rd_bin rfl rfl rfl (fun _ => rfl)) ?_
      refine AL.r (rd_pick_f rfl rfl rfl) ?_
      refine AL.nil ?_
      change AW _ _ _ _ _
      refine AW.cd rfl (fun h159 => ?_) (fun h159 => ?_)
      ·skip
       refine AW.seq ?_
       exact (h159 (by rw [rowsA_len, hml])).elim
      ·skip
       refine AW.skip ?_
       change AW _ _ _ _ _
       refine AW.seq ?_
       refine AW.region ?_
       refine AL.rm ?_
       refine AL.r (rd_tab0 rfl ag_53 rfl rfl) ?_
       refine AL.op rfl (calloL (lopen1 byteN byte_tab (openD byteN (lE d keep again keep2) 3) f1.gro.ok (by omega) 1 0 3 (by omega) f1 f2 (hcl.of hl6 f1)) [0, 4] ?_)
       rintro y os' ⟨rfl, rfl⟩
       refine AL.noL ?_
       refine AL.rm ?_
       refine AL.r (rd_extract rfl rfl rfl) ?_
       refine AL.r (rd_extract rfl rfl rfl) ?_
       refine AL.r (rd_extract rfl rfl rfl) ?_
       refine AL.ra ?_
       refine AL.ra ?_
       refine AL.ra ?_
       refine AL.nil ?_
       change AW _ _ _ _ _
       refine AW.seq ?_
       refine AW.region ?_
       refine AL.rm ?_
       refine AL.r (rd_bin rfl rfl rfl (fun _ => rfl)) ?_
       refine AL.rm ?_
       refine AL.ro (rd_move rfl rfl) ?_
       refine AL.ro (rd_move rfl rfl) ?_
       refine AL.on rfl rfl rfl (AOpB.op (op_call (rsame_t (rs.take m)) rfl (by kernel_rfl) rfl (none) ?_))
       rintro r rfl
       refine AL.no ?_
       refine AL.r (rd_pick_t rfl rfl rfl) ?_
       refine AL.ra ?_
       refine AL.nil ?_
       change AW _ _ _ _ _
       refine AW.ret ?_
       change ResA _ _ _ _ _
       refine res1 rfl (ResV.tmp rfl) rfl ?_
       rfl
theorem walk_LogLasts (w : World) (v0 : Value) (l0 : List Act10) (rp0 : RepS AnyB w v0 (.sl (l0.map Act10.cs))) (a1 : Int) (w1 : (Lit.int .i64 a1).wf = true) (a2 : Int) (w2 : (Lit.int .i64 a2).wf = true) (a3 : Int) (w3 : (Lit.int .i64 a3).wf = true) (a4 : Int) (w4 : (Lit.int .i64 a4).wf = true) :
    Calls Try.prog 6 #[v0, .int .i64 a1, .int .i64 a2, .int .i64 a3, .int .i64 a4] w fun e w' => e = .returned (.bool true) ∧ Below w.heap.size w w' :=
  (logLasts_c l0 a1 a2 a3 a4 (by have := bounds_i64 w1; omega) (by have := bounds_i64 w2; omega) (by have := bounds_i64 w3; omega) (by have := bounds_i64 w4; omega)).law (vs := [v0, .int .i64 a1, .int .i64 a2, .int .i64 a3, .int .i64 a4]) rfl (rep_cons rp0 (rep_cons (.sc _) (rep_cons (.sc _) (rep_cons (.sc _) (rep_cons (.sc _) rep_nil)))))
end Go.Proofs.Ytgjpeldgjpgbcaa
