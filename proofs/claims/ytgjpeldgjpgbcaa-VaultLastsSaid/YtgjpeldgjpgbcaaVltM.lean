/- The twelfth law of what lasts, walked over abstract states. No conditions. -/
import Derived.Test.YtgjpeldgjpgbcaaVltL
namespace Go.Proofs.Ytgjpeldgjpgbcaa
set_option linter.unusedSimpArgs false
set_option linter.unusedVariables false
set_option maxRecDepth 100000
open Go.RowKit

theorem lasts_rows {g : Nat} {T : Nat} {rs : List (List UInt8)} {x : List UInt8} : TK.mk g (owM true T 1 (rowsA rs ++ [[.sl (byA x)]])) = TK.mk g (owM true T 1 (rowsA (rs ++ [x]))) := by
  have : rowsA (rs ++ [x]) = rowsA rs ++ [[.sl (byA x)]] := by simp [rowsA]
  rw [this]
set_option maxHeartbeats 2000000 in
theorem vlasts_c (l : List Act12) (fuse keep again keep2 : Int) (hf : fuse < 9223372036854775808) (hk1 : -9223372036854775808 ≤ keep ∧ keep < 9223372036854775808) (ha : again < 9223372036854775808) (hk2 : -9223372036854775808 ≤ keep2 ∧ keep2 < 9223372036854775808) : AC Try.prog 14 [.sl (l.map Act12.cs), .sc (.int .i64 fuse), .sc (.int .i64 keep), .sc (.int .i64 again), .sc (.int .i64 keep2)] (fun r => r = .s (.sc (.bool true))) := by
  refine AC.of' 183 21 Try.func14 rfl ?_
  change AW _ _ _ _ [TK.mk 0 .off, TK.mk 0 .off, TK.mk 0 .off, TK.mk 0 .off, TK.mk 0 .off, TK.mk 0 .off, TK.mk 0 .off, TK.mk 0 .off, TK.mk 0 .off, TK.mk 0 .off, TK.mk 0 .off, TK.mk 0 .off, TK.mk 0 .off, TK.mk 0 .off, TK.mk 0 .off, TK.mk 0 .off, TK.mk 0 .off, TK.mk 0 .off, TK.mk 0 .off, TK.mk 0 .off, TK.mk 0 .off]
  refine AW.seq ?_
  refine AW.region ?_
  refine AL.ra ?_
  refine AL.nil ?_
  change AW _ _ _ _ _
  refine AW.seq ?_
  refine AW.seq ?_
  refine AW.region ?_
  refine AL.op rfl (AOpB.op (op_call (awake12_c) rfl (by kernel_rfl) rfl (none) ?_))
  rintro r rfl
  refine AL.no ?_
  refine AL.r (rd_un rfl rfl (fun _ => rfl)) ?_
  refine AL.nil ?_
  change AW _ _ _ _ _
  refine AW.cond_f rfl ?_
  refine AW.skip ?_
  change AW _ _ _ _ _
  refine AW.seq ?_
  refine AW.seq ?_
  refine AW.region ?_
  refine AL.rm ?_
  refine AL.op rfl (AOpB.op (op_call (long12_c l) rfl (by kernel_rfl) rfl (none) ?_))
  rintro r ⟨lb, rfl, hlb⟩
  refine AL.no ?_
  refine AL.nil ?_
  change AW _ _ _ _ _
  refine AW.cd rfl (fun h32 => ?_) (fun h32 => ?_)
  ·skip
   refine AW.seq ?_
   refine AW.region ?_
   refine AL.ra ?_
   refine AL.nil ?_
   change AW _ _ _ _ _
   refine AW.ret ?_
   change ResA _ _ _ _ _
   refine res1 rfl (ResV.tmp rfl) rfl ?_
   rfl
  ·skip
   refine AW.skip ?_
   change AW _ _ _ _ _
   refine AW.seq ?_
   refine AW.region ?_
   refine AL.op rfl (AOpB.op (op_call (made_c) rfl (by kernel_rfl) rfl (none) ?_))
   rintro r rfl
   refine AL.no ?_
   refine AL.op rfl (AOpB.op (op_taballoc 15 rfl rfl ?_))
   refine AL.no ?_
   refine AL.op rfl (op_tabstore rfl rfl rfl (tabA_len _) rfl sz_Table ?_)
   refine AL.no ?_
   refine AL.nil ?_
   change AW _ _ _ _ _
   refine AW.seq ?_
   refine AW.region ?_
   refine AL.op rfl (calloW (od_new 150000 (by omega) 0) [0] ?_)
   rintro y os' ⟨rfl, rfl⟩
   refine AL.noW ?_
   refine AL.rm ?_
   refine AL.r (rd_extract rfl rfl rfl) ?_
   refine AL.r (rd_extract rfl rfl rfl) ?_
   refine AL.ra ?_
   refine AL.ra ?_
   refine AL.nil ?_
   change AW _ _ _ _ _
   refine AW.seq ?_
   refine AW.region ?_
   refine AL.rm ?_
   refine AL.r (rd_tab0 rfl ag_53 rfl rfl) ?_
   refine AL.op rfl (calloW (vcreate_c byteN byte_tab 1 0 0 0 (R := 150000) ⟨by omega, by omega⟩) [0, 1, 2, 3] ?_)
   rintro y os' ⟨rfl, rfl⟩
   refine AL.noW ?_
   refine AL.rm ?_
   refine AL.r (rd_extract rfl rfl rfl) ?_
   refine AL.r (rd_extract rfl rfl rfl) ?_
   refine AL.ra ?_
   refine AL.ra ?_
   refine AL.nil ?_
   change AW _ _ _ _ _
   refine AW.seq ?_
   refine AW.seq ?_
   refine AW.region ?_
   refine AL.rm ?_
   refine AL.r (rd_bin rfl rfl rfl (fun _ => rfl)) ?_
   refine AL.nil ?_
   change AW _ _ _ _ _
   refine AW.cond_f rfl ?_
   refine AW.skip ?_
   change AW _ _ _ _ _
   refine AW.seq ?_
   refine AW.region ?_
   refine AL.rm ?_
   refine AL.rm ?_
   refine AL.op rfl (calloW (od_fuse (crD 150000) 1 fuse) [0] ?_)
   rintro y os' ⟨rfl, rfl⟩
   refine AL.noW ?_
   refine AL.nil ?_
   change AW _ _ _ _ _
   refine AW.seq ?_
   refine AW.region ?_
   refine AL.r (rd_st0n rfl) ?_
   refine AL.op rfl (AOpB.op (op_alloc 16 rfl ze_87 rfl ?_))
   refine AL.no ?_
   refine AL.op rfl (op_store_ rfl rfl rfl rfl rfl sz_87 ?_)
   refine AL.no ?_
   refine AL.nil ?_
   change AW _ _ _ _ _
   refine AW.seq ?_
   refine AW.region ?_
   refine AL.nilbx 16 2 14 29 1 rfl rfl rfl (by decide) ?_
   refine AL.no ?_
   refine AL.ra ?_
   refine AL.nil ?_
   change AW _ _ _ _ _
   refine AW.seq ?_
   refine AW.region ?_
   refine AL.r (rd_st0n rfl) ?_
   refine AL.op rfl (AOpB.op (op_alloc 17 rfl ze_87 rfl ?_))
   refine AL.no ?_
   refine AL.op rfl (op_store_ rfl rfl rfl rfl rfl sz_87 ?_)
   refine AL.no ?_
   refine AL.nil ?_
   change AW _ _ _ _ _
   refine AW.seq ?_
   refine AW.region ?_
   refine AL.ra ?_
   refine AL.nil ?_
   change AW _ _ _ _ _
   refine AW.seq ?_
   refine AW.seq ?_
   refine AW.region ?_
   refine AL.ra ?_
   refine AL.nil ?_
   change AW _ _ _ _ _
   refine AW.block ?_
   refine AW.loopM (ι := VQ) [21, 51, 52, 53, 54, 55, 56, 57, 58, 59, 60, 61, 62, 63, 64, 65, 66, 67, 68, 69, 70, 71, 72, 73, 74, 75, 76, 77, 78, 79, 80, 81, 82, 83, 84, 85, 86, 87, 88, 89, 90, 91, 92, 93, 94, 95, 96, 97, 98, 99, 100, 101, 102, 103, 104, 105, 106] (fun ⟨k, E, c, hh, rs, su, ne, nb, fo, gl, h4, gL, V, S, L, d⟩ => [(20, .sc (.int .i64 (k : Int))), (17, .sc (.int .i64 (su : Int))), (19, .sc (.bool fo))]) [18, 19] (fun ⟨k, E, c, hh, rs, su, ne, nb, fo, gl, h4, gL, V, S, L, d⟩ => [(0, ⟨1, .obj (DiskP d)⟩), (1, ⟨1, .box 119 (fatC [.bx 0 1 0] byteN [.sc (.int .i64 S.file), .sc (.int .i64 S.counts), .sc (.int .i64 S.epoch), .sl (byA S.bytes), .sc (.bool S.down)])⟩), (2, ⟨gl, .box 111 (fatC [.bx 0 1 0] byteN [.sc (.int .i64 L.file), .sc (.bool L.down), .sc (.int .i64 L.records), .sc (.int .i64 L.used), .sc (.int .i64 L.fresh)])⟩), (3, ⟨1, .box 126 (fatC [.bx 0 1 0] byteN [.bx 1 1 0, .bx 2 gl 0, .sc (.int .i64 V.file), .sc (.bool V.down)])⟩), (4, ⟨h4, .off⟩), (14, ⟨gL, owM true 29 1 (rowsA rs)⟩), (16, ⟨1, .box 87 [.sc (.int .i64 (E : Int)), .sl (byA hh), .ow 14 gL, .sc (.int .i64 0)]⟩), (17, ⟨1, .box 87 [.sc (.int .i64 (ne : Int)), .sl (byA nb), .sc (.slice none 0 0), .sc (.int .i64 0)]⟩)]) (fun ⟨k, E, c, hh, rs, su, ne, nb, fo, gl, h4, gL, V, S, L, d⟩ => VQJ l.length k E c hh rs su ne nb fo V S L d) (fun ⟨k, E, c, hh, rs, su, ne, nb, fo, gl, h4, gL, V, S, L, d⟩ => l.length - k) ⟨0, 0, 1, [], [], 0, 0, [], false, 1, 0, 1, ⟨2, false⟩, ⟨0, 1, 0, [], false⟩, ⟨2, false, 0, 0, 0⟩, fuseD (crD 150000) fuse⟩ (vqj_new _ fuse hf) (by simp only [anys, upds, offs, List.set_cons_zero, List.set_cons_succ]; repeat (first | exact Wk.nil | refine Wk.same ?_ | refine Wk.any ?_)) (by simp only [anys, upds, offs, List.set_cons_zero, List.set_cons_succ]; repeat (first | exact Sk.nil _ | refine Sk.same _ ?_ | refine Sk.scr _ (by decide) ?_ | refine Sk.eq _ (by rfl) ?_)) ?_
   rintro ⟨k, E, c, hh, rs, su, ne, nb, fo, gl, h4, gL, V, S, L, d⟩ gs hJ
   refine AW.norm (by simp only [anys, upds, offs, List.set_cons_zero, List.set_cons_succ]; rfl) (by (try simp only [anys, upds, offs, List.set_cons_zero, List.set_cons_succ]); (try rfl)) ?_
   refine AW.seq ?_
   refine AW.seq ?_
   refine AW.region ?_
   have hl60 := hlb h32
   refine AL.rm ?_
   refine AL.rm ?_
   refine AL.r (rd_len_sl rfl el_91 rfl) ?_
   refine AL.r (rd_bin rfl rfl rfl (fun _ => rfl)) ?_
   refine AL.nil ?_
   change AW _ _ _ _ _
   refine AW.cd rfl (fun h54 => ?_) (fun h54 => ?_)
   ·skip
    refine AW.skip ?_
    change AW _ _ _ _ _
    refine AW.seq ?_
    refine AW.block ?_
    refine AW.seq ?_
    refine AW.region ?_
    have hkl : k < l.length := (by simp only [List.length_map] at *; omega)
    have hkk := hJ.hk
    have hEk := hJ.hE
    have hrn := hJ.hn
    have hrl := rowsA_len rs
    refine AL.rm ?_
    refine AL.rm ?_
    refine AL.r (rd_iaddr_sl rfl el_91 rfl rfl rfl (get_mapA (by omega)) rfl) ?_
    refine AL.r (rd_faddr_ep rfl fo_93_1 rfl) ?_
    refine AL.r (rd_load_ep rfl ag_29 rfl rfl) ?_
    refine AL.ra ?_
    refine AL.nil ?_
    change AW _ _ _ _ _
    refine AW.seq ?_
    refine AW.seq ?_
    refine AW.region ?_
    refine AL.rm ?_
    refine AL.r (rd_len_sl rfl el_29 rfl) ?_
    refine AL.r (rd_bin rfl rfl rfl (fun _ => rfl)) ?_
    refine AL.rm ?_
    refine AL.fk (d := 65) rfl (fun h65 => ?_) (fun h65 => ?_)
    ·skip
     refine AL.n ?_
     refine AL.rf ?_
     refine AL.rf ?_
     refine AL.r (rd_pick_t rfl rfl rfl) ?_
     refine AL.nil ?_
     change AW _ _ _ _ _
     refine AW.cond_t rfl ?_
     refine AW.exit ?_
     change AW _ _ _ _ _
     refine AW.region ?_
     refine AL.rm ?_
     refine AL.r (rd_arith_add rfl rfl rfl (by first | exact IntWalk.i64_in _ (by omega) | rfl)) ?_
     refine AL.ra ?_
     refine AL.nil ?_
     refine ⟨⟨k + 1, E, c, hh, rs, su, ne, nb, fo, gl, h4, gL, V, S, L, d⟩, ?_, by first | omega | (simp only []; omega), ?_, ?_⟩
     ·exact hJ.skip hkl
     ·simp only [anys, upds, offs, List.set_cons_zero, List.set_cons_succ]; repeat (first | exact Wk.nil | refine Wk.same ?_ | refine Wk.any ?_)
     ·simp only [anys, upds, offs, List.set_cons_zero, List.set_cons_succ]; repeat (first | exact Sk.nil _ | refine Sk.same _ ?_ | refine Sk.scr _ (by decide) ?_ | refine Sk.eq _ (by first | rfl | exact lasts_rows) ?_)
    ·skip
     refine AL.n ?_
     refine AL.ro (rd_move rfl rfl) ?_
     refine AL.on rfl rfl rfl (calloW (od_dark d 1) [0] ?_)
     rintro y os' ⟨rfl, rfl⟩
     refine AL.noW ?_
     refine AL.r (rd_pick_f rfl rfl rfl) ?_
     refine AL.nil ?_
     change AW _ _ _ _ _
     refine AW.cd rfl (fun h68 => ?_) (fun h68 => ?_)
     ·skip
      refine AW.exit ?_
      change AW _ _ _ _ _
      refine AW.region ?_
      refine AL.rm ?_
      refine AL.r (rd_arith_add rfl rfl rfl (by first | exact IntWalk.i64_in _ (by omega) | rfl)) ?_
      refine AL.ra ?_
      refine AL.nil ?_
      refine ⟨⟨k + 1, E, c, hh, rs, su, ne, nb, fo, gl, h4, gL, V, S, L, d⟩, ?_, by first | omega | (simp only []; omega), ?_, ?_⟩
      ·exact hJ.skip hkl
      ·simp only [anys, upds, offs, List.set_cons_zero, List.set_cons_succ]; repeat (first | exact Wk.nil | refine Wk.same ?_ | refine Wk.any ?_)
      ·simp only [anys, upds, offs, List.set_cons_zero, List.set_cons_succ]; repeat (first | exact Sk.nil _ | refine Sk.same _ ?_ | refine Sk.scr _ (by decide) ?_ | refine Sk.eq _ (by first | rfl | exact lasts_rows) ?_)
     ·skip
      refine AW.skip ?_
      change AW _ _ _ _ _
      refine AW.seq ?_
      refine AW.region ?_
      obtain ⟨hA, rfl, rfl, hL⟩ := hJ.live h68
      have hb4 : l[k].b.length ≤ 400 := (by simp only [byA_len] at *; omega)
      refine AL.rm ?_
      refine AL.rm ?_
      refine AL.r (rd_iaddr_sl rfl el_91 rfl rfl rfl (get_mapA (by omega)) rfl) ?_
      refine AL.r (rd_faddr_ep rfl fo_93_0 rfl) ?_
      refine AL.r (rd_load_ep rfl ag_3 rfl rfl) ?_
      refine AL.nil ?_
      change AW _ _ _ _ _
      refine AW.block ?_
      refine AW.seq ?_
      refine AW.region ?_
      refine AL.r (rd_bin rfl rfl rfl (fun _ => rfl)) ?_
      refine AL.ra ?_
      refine AL.nil ?_
      change AW _ _ _ _ _
      refine AW.cd rfl (fun h74 => ?_) (fun h74 => ?_)
      ·skip
       refine AW.seq ?_
       refine AW.region ?_
       refine AL.rm ?_
       refine AL.rm ?_
       refine AL.op rfl (calloW (vadd_c 1 1 gl 1 byteN byte_tab ⟨((vfile E : Nat) : Int), false⟩ ⟨0, c, E, hh, false⟩ L d hA.ok (by omega) (hL.ok (by omega)) l[k].b) [3, 1, 2, 0] ?_)
       rintro y os' ⟨rfl, rfl⟩
       refine AL.noW ?_
       refine AL.nil ?_
       change AW _ _ _ _ _
       refine AW.region ?_
       refine AL.r (rd_faddr_bx rfl fo_87_2 rfl rfl ⟨_, _, rfl⟩) ?_
       refine AL.r (rd_load_bx rfl ag_56 rfl rfl rfl) ?_
       refine AL.rm ?_
       refine AL.op rfl (AOpB.op (bs_set rfl ap_56 ze_29 rfl rfl ?_))
       refine AL.no ?_
       refine AL.op rfl (op_appendM rfl ap_56 rfl rfl (src_s rfl) (by first | omega | (simp; omega) | simp) (by first | omega | (simp; omega) | simp) ?_)
       refine AL.no ?_
       refine AL.r (rd_faddr_bx rfl fo_87_2 rfl rfl ⟨_, _, rfl⟩) ?_
       refine AL.op rfl (op_storo rfl rfl rfl rfl rfl sz_56 ?_)
       refine AL.no ?_
       refine AL.nil ?_
       change AW _ _ _ _ _
       refine AW.region ?_
       refine AL.rm ?_
       refine AL.r (rd_arith_add rfl rfl rfl (by first | exact IntWalk.i64_in _ (by omega) | rfl)) ?_
       refine AL.ra ?_
       refine AL.nil ?_
       refine ⟨⟨k + 1, E, c, hh, rs ++ [l[k].b], su, ne, nb, fo, gl, h4, gL + 1, vaddV byteN ⟨((vfile E : Nat) : Int), false⟩ L d l[k].b, ⟨0, c, E, hh, false⟩, vaddL byteN ⟨((vfile E : Nat) : Int), false⟩ L d l[k].b, vaddD byteN ⟨((vfile E : Nat) : Int), false⟩ L d l[k].b⟩, ?_, by first | omega | (simp only []; omega), ?_, ?_⟩
       ·exact hJ.add h68 hkl hl60 hb4
       ·simp only [anys, upds, offs, List.set_cons_zero, List.set_cons_succ]; repeat (first | exact Wk.nil | refine Wk.same ?_ | refine Wk.any ?_)
       ·simp only [anys, upds, offs, List.set_cons_zero, List.set_cons_succ]; repeat (first | exact Sk.nil _ | refine Sk.same _ ?_ | refine Sk.scr _ (by decide) ?_ | refine Sk.eq _ (by first | rfl | exact lasts_rows) ?_)
      ·skip
       refine AW.seq ?_
       refine AW.region ?_
       refine AL.r (rd_bin rfl rfl rfl (fun _ => rfl)) ?_
       refine AL.ra ?_
       refine AL.nil ?_
       change AW _ _ _ _ _
       refine AW.cd rfl (fun h85 => ?_) (fun h85 => ?_)
       ·skip
        refine AW.seq ?_
        refine AW.region ?_
        refine AL.rm ?_
        refine AL.op rfl (calloW (vsync_c 1 1 gl 1 byteN ⟨((vfile E : Nat) : Int), false⟩ ⟨0, c, E, hh, false⟩ L d hA.ok (by omega)) [3, 1, 2, 0] ?_)
        rintro y os' ⟨rfl, rfl⟩
        refine AL.noW ?_
        refine AL.r (rd_bin rfl rfl rfl (fun _ => rfl)) ?_
        refine AL.nil ?_
        change AW _ _ _ _ _
        refine AW.cd rfl (fun h89 => ?_) (fun h89 => ?_)
        ·skip
         refine AW.region ?_
         refine AL.r (rd_faddr_bx rfl fo_87_2 rfl rfl ⟨_, _, rfl⟩) ?_
         refine AL.r (rd_load_bx rfl ag_56 rfl rfl rfl) ?_
         refine AL.r (rd_len_owM rfl el_56 rfl rfl) ?_
         refine AL.ra ?_
         refine AL.nil ?_
         change AW _ _ _ _ _
         refine AW.region ?_
         refine AL.rm ?_
         refine AL.r (rd_arith_add rfl rfl rfl (by first | exact IntWalk.i64_in _ (by omega) | rfl)) ?_
         refine AL.ra ?_
         refine AL.nil ?_
         refine ⟨⟨k + 1, E, c, hh, rs, (rowsA rs).length, ne, nb, fo, gl, h4, gL, vsyncV ⟨((vfile E : Nat) : Int), false⟩ L d, ⟨0, c, E, hh, false⟩, vsyncL ⟨((vfile E : Nat) : Int), false⟩ L d, vsyncD ⟨((vfile E : Nat) : Int), false⟩ L d⟩, ?_, by first | omega | (simp only []; omega), ?_, ?_⟩
         ·rw [hrl]; exact (hJ.sync h68 hkl).1 h89
         ·simp only [anys, upds, offs, List.set_cons_zero, List.set_cons_succ]; repeat (first | exact Wk.nil | refine Wk.same ?_ | refine Wk.any ?_)
         ·simp only [anys, upds, offs, List.set_cons_zero, List.set_cons_succ]; repeat (first | exact Sk.nil _ | refine Sk.same _ ?_ | refine Sk.scr _ (by decide) ?_ | refine Sk.eq _ (by first | rfl | exact lasts_rows) ?_)
        ·skip
         refine AW.skip ?_
         change AW _ _ _ _ _
         refine AW.region ?_
         refine AL.rm ?_
         refine AL.r (rd_arith_add rfl rfl rfl (by first | exact IntWalk.i64_in _ (by omega) | rfl)) ?_
         refine AL.ra ?_
         refine AL.nil ?_
         refine ⟨⟨k + 1, E, c, hh, rs, su, ne, nb, fo, gl, h4, gL, vsyncV ⟨((vfile E : Nat) : Int), false⟩ L d, ⟨0, c, E, hh, false⟩, vsyncL ⟨((vfile E : Nat) : Int), false⟩ L d, vsyncD ⟨((vfile E : Nat) : Int), false⟩ L d⟩, ?_, by first | omega | (simp only []; omega), ?_, ?_⟩
         ·exact (hJ.sync h68 hkl).2 h89
         ·simp only [anys, upds, offs, List.set_cons_zero, List.set_cons_succ]; repeat (first | exact Wk.nil | refine Wk.same ?_ | refine Wk.any ?_)
         ·simp only [anys, upds, offs, List.set_cons_zero, List.set_cons_succ]; repeat (first | exact Sk.nil _ | refine Sk.same _ ?_ | refine Sk.scr _ (by decide) ?_ | refine Sk.eq _ (by first | rfl | exact lasts_rows) ?_)
       ·skip
        refine AW.seq ?_
        refine AW.region ?_
        refine AL.r (rd_bin rfl rfl rfl (fun _ => rfl)) ?_
        refine AL.ra ?_
        refine AL.nil ?_
        change AW _ _ _ _ _
        refine AW.cd rfl (fun h93 => ?_) (fun h93 => ?_)
        ·skip
         refine AW.seq ?_
         refine AW.region ?_
         refine AL.r (rd_faddr_bx rfl fo_87_0 rfl rfl ⟨_, _, rfl⟩) ?_
         refine AL.r (rd_load_bx rfl ag_2 rfl rfl rfl) ?_
         refine AL.r (rd_arith_add rfl rfl rfl (by first | exact IntWalk.i64_in _ (by omega) | rfl)) ?_
         refine AL.rm ?_
         refine AL.r (rd_build rfl pl_87 ze_87 rfl rfl) ?_
         refine AL.op rfl (op_store_ rfl rfl rfl rfl rfl sz_87 ?_)
         refine AL.no ?_
         refine AL.nil ?_
         change AW _ _ _ _ _
         refine AW.seq ?_
         refine AW.region ?_
         refine AL.rm ?_
         refine AL.rm ?_
         refine AL.op rfl (calloW (vfold_c 1 1 gl 1 h4 byteN byte_tab ⟨((vfile E : Nat) : Int), false⟩ ⟨0, c, E, hh, false⟩ L d hA.ok (by omega) (vfile E) (vfile_23 E) rfl (c := c) (e := E) ⟨rfl, rfl, rfl, by omega, hA.si.c2, by omega⟩ l[k].b) [3, 1, 2, 0, 4] ?_)
         rintro y os' ⟨gl2, h7, rfl, rfl⟩
         refine AL.noW ?_
         refine AL.r (rd_bin rfl rfl rfl (fun _ => rfl)) ?_
         refine AL.ra ?_
         refine AL.nil ?_
         change AW _ _ _ _ _
         refine AW.seq ?_
         refine AW.region ?_
         refine AL.rm ?_
         refine AL.r (rd_un rfl rfl (fun _ => rfl)) ?_
         refine AL.nil ?_
         change AW _ _ _ _ _
         refine AW.cd rfl (fun h105 => ?_) (fun h105 => ?_)
         ·skip
          refine AW.seq ?_
          refine AW.region ?_
          refine AL.r (rd_loadN_bx rfl ag_87 rfl rfl (Nat.le_of_ble_eq_true rfl) rfl) ?_
          refine AL.op rfl (op_store_ rfl rfl rfl rfl rfl sz_87 ?_)
          refine AL.no ?_
          refine AL.nil ?_
          change AW _ _ _ _ _
          refine AW.region ?_
          refine AL.nilbx 16 2 14 29 1 rfl rfl rfl (by decide) ?_
          refine AL.no ?_
          refine AL.ra ?_
          refine AL.nil ?_
          change AW _ _ _ _ _
          refine AW.region ?_
          refine AL.rm ?_
          refine AL.r (rd_arith_add rfl rfl rfl (by first | exact IntWalk.i64_in _ (by omega) | rfl)) ?_
          refine AL.ra ?_
          refine AL.nil ?_
          refine ⟨⟨k + 1, E + 1, 1 - c, l[k].b, [], 0, E + 1, l[k].b, ((foldO byteN ⟨((vfile E : Nat) : Int), false⟩ ⟨0, c, E, hh, false⟩ L d (vfile E) c E l[k].b).r != 0), gl2, h7, gL + 1, (foldO byteN ⟨((vfile E : Nat) : Int), false⟩ ⟨0, c, E, hh, false⟩ L d (vfile E) c E l[k].b).V, (foldO byteN ⟨((vfile E : Nat) : Int), false⟩ ⟨0, c, E, hh, false⟩ L d (vfile E) c E l[k].b).S, (foldO byteN ⟨((vfile E : Nat) : Int), false⟩ ⟨0, c, E, hh, false⟩ L d (vfile E) c E l[k].b).L, (foldO byteN ⟨((vfile E : Nat) : Int), false⟩ ⟨0, c, E, hh, false⟩ L d (vfile E) c E l[k].b).d⟩, ?_, by first | omega | (simp only []; omega), ?_, ?_⟩
          ·exact (hJ.fold h68 hkl hl60 hb4 rfl).1 h105
          ·simp only [anys, upds, offs, List.set_cons_zero, List.set_cons_succ]; repeat (first | exact Wk.nil | refine Wk.same ?_ | refine Wk.any ?_)
          ·simp only [anys, upds, offs, List.set_cons_zero, List.set_cons_succ]; repeat (first | exact Sk.nil _ | refine Sk.same _ ?_ | refine Sk.scr _ (by decide) ?_ | refine Sk.eq _ (by first | rfl | exact lasts_rows) ?_)
         ·skip
          refine AW.skip ?_
          change AW _ _ _ _ _
          refine AW.region ?_
          refine AL.rm ?_
          refine AL.r (rd_arith_add rfl rfl rfl (by first | exact IntWalk.i64_in _ (by omega) | rfl)) ?_
          refine AL.ra ?_
          refine AL.nil ?_
          refine ⟨⟨k + 1, E, c, hh, rs, su, E + 1, l[k].b, ((foldO byteN ⟨((vfile E : Nat) : Int), false⟩ ⟨0, c, E, hh, false⟩ L d (vfile E) c E l[k].b).r != 0), gl2, h7, gL, (foldO byteN ⟨((vfile E : Nat) : Int), false⟩ ⟨0, c, E, hh, false⟩ L d (vfile E) c E l[k].b).V, (foldO byteN ⟨((vfile E : Nat) : Int), false⟩ ⟨0, c, E, hh, false⟩ L d (vfile E) c E l[k].b).S, (foldO byteN ⟨((vfile E : Nat) : Int), false⟩ ⟨0, c, E, hh, false⟩ L d (vfile E) c E l[k].b).L, (foldO byteN ⟨((vfile E : Nat) : Int), false⟩ ⟨0, c, E, hh, false⟩ L d (vfile E) c E l[k].b).d⟩, ?_, by first | omega | (simp only []; omega), ?_, ?_⟩
          ·exact (hJ.fold h68 hkl hl60 hb4 rfl).2 h105
          ·simp only [anys, upds, offs, List.set_cons_zero, List.set_cons_succ]; repeat (first | exact Wk.nil | refine Wk.same ?_ | refine Wk.any ?_)
          ·simp only [anys, upds, offs, List.set_cons_zero, List.set_cons_succ]; repeat (first | exact Sk.nil _ | refine Sk.same _ ?_ | refine Sk.scr _ (by decide) ?_ | refine Sk.eq _ (by first | rfl | exact lasts_rows) ?_)
        ·skip
         refine AW.skip ?_
         change AW _ _ _ _ _
         refine AW.region ?_
         refine AL.rm ?_
         refine AL.r (rd_arith_add rfl rfl rfl (by first | exact IntWalk.i64_in _ (by omega) | rfl)) ?_
         refine AL.ra ?_
         refine AL.nil ?_
         refine ⟨⟨k + 1, E, c, hh, rs, su, ne, nb, fo, gl, h4, gL, ⟨((vfile E : Nat) : Int), false⟩, ⟨0, c, E, hh, false⟩, L, d⟩, ?_, by first | omega | (simp only []; omega), ?_, ?_⟩
         ·exact hJ.skip hkl
         ·simp only [anys, upds, offs, List.set_cons_zero, List.set_cons_succ]; repeat (first | exact Wk.nil | refine Wk.same ?_ | refine Wk.any ?_)
         ·simp only [anys, upds, offs, List.set_cons_zero, List.set_cons_succ]; repeat (first | exact Sk.nil _ | refine Sk.same _ ?_ | refine Sk.scr _ (by decide) ?_ | refine Sk.eq _ (by first | rfl | exact lasts_rows) ?_)
   ·skip
    refine AW.exit ?_
    change AW _ _ _ _ _
    refine AW.seq ?_
    refine AW.region ?_
    have hkk := hJ.hk
    have hrn := hJ.hn
    obtain ⟨F1, E2, c2, h2, rs2, p1, p2, p3, p4, p5, p6, p7, hfin⟩ := hJ.fin keep
    have p8 := p1.fuse again ha
    refine AL.rm ?_
    refine AL.rm ?_
    refine AL.op rfl (calloW (ok_crash hJ.ok (by omega) 1 keep hk1) [0] ?_)
    rintro y os' ⟨rfl, rfl⟩
    refine AL.noW ?_
    refine AL.nil ?_
    change AW _ _ _ _ _
    refine AW.seq ?_
    refine AW.region ?_
    refine AL.rm ?_
    refine AL.rm ?_
    refine AL.op rfl (calloW (od_fuse (crashD d keep) 1 again) [0] ?_)
    rintro y os' ⟨rfl, rfl⟩
    refine AL.noW ?_
    refine AL.nil ?_
    change AW _ _ _ _ _
    refine AW.seq ?_
    refine AW.region ?_
    refine AL.rm ?_
    refine AL.r (rd_tab0 rfl ag_53 rfl rfl) ?_
    refine AL.op rfl (calloW (rest_open_any p8 (by omega) p2 0 0 0) [0, 5, 6, 7] ?_)
    rintro y os' ⟨a1, a2, a3, rfl, rfl⟩
    refine AL.noW ?_
    refine AL.nil ?_
    change AW _ _ _ _ _
    refine AW.seq ?_
    refine AW.region ?_
    obtain ⟨F2, s1, s2, s3, s4⟩ := reopen_crash p8 p2 p3 keep2
    obtain ⟨t1, F3, t2, t3, t4, t5⟩ := reopen_calm s1 s2 s3 s4
    obtain ⟨u1, _⟩ := reopen_calm t2 t3 t4 t5
    refine AL.rm ?_
    refine AL.rm ?_
    refine AL.op rfl (calloW (ok_crash (openD_Ok p8.gro.ok (vfile_lt E2)) (by omega) 1 keep2 hk2) [0] ?_)
    rintro y os' ⟨rfl, rfl⟩
    refine AL.noW ?_
    refine AL.nil ?_
    change AW _ _ _ _ _
    refine AW.seq ?_
    refine AW.region ?_
    refine AL.rm ?_
    refine AL.r (rd_tab0 rfl ag_53 rfl rfl) ?_
    refine AL.op rfl (calloW (rest_open (i := 0) s1 (by omega) s3 s4 t1 0 0 0) [0, 8, 9, 10] ?_)
    rintro y os' ⟨rfl, rfl⟩
    refine AL.noW ?_
    refine AL.rm ?_
    refine AL.r (rd_extract rfl rfl rfl) ?_
    refine AL.r (rd_extract rfl rfl rfl) ?_
    refine AL.r (rd_extract rfl rfl rfl) ?_
    refine AL.ra ?_
    refine AL.ra ?_
    refine AL.ra ?_
    refine AL.nil ?_
    change AW _ _ _ _ _
    refine AW.seq ?_
    refine AW.seq ?_
    refine AW.region ?_
    refine AL.rm ?_
    refine AL.r (rd_bin rfl rfl rfl (fun _ => rfl)) ?_
    refine AL.rm ?_
    refine AL.ro (rd_move rfl rfl) ?_
    refine AL.on rfl rfl rfl (calloW (vrecords_c 1 1 1 1 byteN ⟨vfile E2, false⟩ (vS c2 E2 h2) (vL (crashD (openD byteN (fuseD (crashD d keep) again) (vfile E2)) keep2) E2 rs2) (openD byteN (crashD (openD byteN (fuseD (crashD d keep) again) (vfile E2)) keep2) (vfile E2))) [10, 8, 9, 0] ?_)
    rintro y os' ⟨rfl, rfl⟩
    refine AL.noW ?_
    refine AL.ro (rd_move rfl rfl) ?_
    refine AL.ro (rd_len_sl rfl el_56 rfl) ?_
    refine AL.ro (rd_bin rfl rfl rfl (fun _ => rfl)) ?_
    refine AL.r (rd_pick_f rfl rfl rfl) ?_
    refine AL.nil ?_
    change AW _ _ _ _ _
    refine AW.cd rfl (fun h134 => ?_) (fun h134 => ?_)
    ·skip
     refine AW.seq ?_
     exact (h134 (by simp [vL, rowsA_len])).elim
    ·skip
     refine AW.skip ?_
     change AW _ _ _ _ _
     refine AW.seq ?_
     refine AW.region ?_
     refine AL.rm ?_
     refine AL.op rfl (calloW (vepoch_c 1 1 1 1 byteN ⟨vfile E2, false⟩ (vS c2 E2 h2) (vL (crashD (openD byteN (fuseD (crashD d keep) again) (vfile E2)) keep2) E2 rs2) (openD byteN (crashD (openD byteN (fuseD (crashD d keep) again) (vfile E2)) keep2) (vfile E2))) [10, 8, 9, 0] ?_)
     rintro y os' ⟨rfl, rfl⟩
     refine AL.noW ?_
     refine AL.rm ?_
     refine AL.op rfl (calloW (vbytes_c 1 1 1 1 byteN ⟨vfile E2, false⟩ (vS c2 E2 h2) (vL (crashD (openD byteN (fuseD (crashD d keep) again) (vfile E2)) keep2) E2 rs2) (openD byteN (crashD (openD byteN (fuseD (crashD d keep) again) (vfile E2)) keep2) (vfile E2)) (Nat.le_trans p5 (by decide))) [10, 8, 9, 0] ?_)
     rintro y os' ⟨rfl, rfl⟩
     refine AL.noW ?_
     refine AL.rm ?_
     refine AL.r (rd_build rfl pl_87 ze_87 rfl rfl) ?_
     refine AL.op rfl (AOpB.op (op_alloc 20 rfl ze_87 rfl ?_))
     refine AL.no ?_
     refine AL.op rfl (op_store_ rfl rfl rfl rfl rfl sz_87 ?_)
     refine AL.no ?_
     refine AL.nil ?_
     change AW _ _ _ _ _
     refine AW.join (ι := Unit) [10, 141, 142, 143, 144, 145, 146] (fun u146 => []) [] (fun u146 => []) (fun u146 => E2 = E ∧ h2 = hh ∧ ∃ m, su ≤ m ∧ m ≤ rs.length ∧ rs2 = rs.take m) ?_ ?_
     ·skip
      refine AW.seq ?_
      refine AW.region ?_
      refine AL.rm ?_
      refine AL.rm ?_
      refine AL.fk (d := 142) rfl (fun h142 => ?_) (fun h142 => ?_)
      ·skip
       refine AL.n ?_
       refine AL.ro (rd_loadN_bx rfl ag_87 rfl rfl (Nat.le_of_ble_eq_true rfl) rfl) ?_
       refine AL.ro (rd_stld rfl rfl rfl) ?_
       refine AL.on rfl rfl rfl (AOpB.op (op_call (vsame_c E2 ne 0 0 h2 nb rs2 [] (Nat.le_trans p5 (by decide)) (Nat.le_trans hJ.hb (by decide)) (Nat.le_trans p6 (by omega)) (Nat.zero_le _) (fun r hr => Nat.le_trans (p7 r hr) (by decide)) (fun r hr => by cases hr)) rfl (by kernel_rfl) rfl (none) ?_))
       rintro r rfl
       refine AL.no ?_
       refine AL.r (rd_pick_t rfl rfl rfl) ?_
       refine AL.nil ?_
       change AW _ _ _ _ _
       refine AW.cd rfl (fun h146 => ?_) (fun h146 => ?_)
       ·skip
        refine AW.seq ?_
        refine AW.region ?_
        refine AL.ra ?_
        refine AL.nil ?_
        change AW _ _ _ _ _
        refine AW.ret ?_
        change ResA _ _ _ _ _
        refine res1 rfl (ResV.tmp rfl) rfl ?_
        rfl
       ·skip
        refine AW.skip ?_
        refine ⟨(), hfin.a fun _ hx => h146 ⟨congrArg Nat.cast hx.1, hx.2⟩, (by simp only [anys, upds, offs, List.set_cons_zero, List.set_cons_succ]; repeat (first | exact Wk.nil | refine Wk.same ?_ | refine Wk.any ?_)), (by simp only [anys, upds, offs, List.set_cons_zero, List.set_cons_succ]; repeat (first | exact Sk.nil _ | refine Sk.same _ ?_ | refine Sk.scr _ (by decide) ?_))⟩
      ·skip
       refine AL.n ?_
       refine AL.rf ?_
       refine AL.rf ?_
       refine AL.rf ?_
       refine AL.r (rd_pick_f rfl rfl rfl) ?_
       refine AL.nil ?_
       change AW _ _ _ _ _
       refine AW.cond_f rfl ?_
       refine AW.skip ?_
       refine ⟨(), hfin.a fun hx => absurd (h142.symm.trans hx) (by decide), (by simp only [anys, upds, offs, List.set_cons_zero, List.set_cons_succ]; repeat (first | exact Wk.nil | refine Wk.same ?_ | refine Wk.any ?_)), (by simp only [anys, upds, offs, List.set_cons_zero, List.set_cons_succ]; repeat (first | exact Sk.nil _ | refine Sk.same _ ?_ | refine Sk.scr _ (by decide) ?_))⟩
     ·rintro u146 gs146 hJ146
      refine AW.norm (by simp only [anys, upds, offs, List.set_cons_zero, List.set_cons_succ]; rfl) (by (try simp only [anys, upds, offs, List.set_cons_zero, List.set_cons_succ]); (try rfl)) ?_
      (try dsimp only at hJ146)
      change AW _ _ _ _ _
      refine AW.seq ?_
      refine AW.seq ?_
      refine AW.region ?_
      obtain ⟨eE, eh, m, m1, m2, em⟩ := hJ146
      subst E2; subst h2; subst rs2
      refine AL.r (rd_faddr_bx rfl fo_87_0 rfl rfl ⟨_, _, rfl⟩) ?_
      refine AL.r (rd_load_bx rfl ag_2 rfl rfl rfl) ?_
      refine AL.r (rd_faddr_bx rfl fo_87_0 rfl rfl ⟨_, _, rfl⟩) ?_
      refine AL.r (rd_load_bx rfl ag_2 rfl rfl rfl) ?_
      refine AL.r (rd_bin rfl rfl rfl (fun _ => rfl)) ?_
      refine AL.rm ?_
      refine AL.fk (d := 152) rfl (fun h152 => ?_) (fun h152 => ?_)
      ·skip
       exact absurd rfl h152
      ·skip
       refine AL.n ?_
       refine AL.ro (rd_faddr_bx rfl fo_87_1 rfl rfl ⟨_, _, rfl⟩) ?_
       refine AL.ro (rd_load_bx rfl ag_29 rfl rfl rfl) ?_
       refine AL.ro (rd_b2s rfl (by kernel_rfl) (src_s rfl)) ?_
       refine AL.ro (rd_faddr_bx rfl fo_87_1 rfl rfl ⟨_, _, rfl⟩) ?_
       refine AL.ro (rd_load_bx rfl ag_29 rfl rfl rfl) ?_
       refine AL.ro (rd_b2s rfl (by kernel_rfl) (src_s rfl)) ?_
       refine AL.ro (rd_sne rfl rfl rfl) ?_
       refine AL.r (rd_pick_f rfl rfl rfl) ?_
       refine AL.rm ?_
       refine AL.fk (d := 161) rfl (fun h161 => ?_) (fun h161 => ?_)
       ·skip
        exact absurd rfl h161
       ·skip
        refine AL.n ?_
        refine AL.ro (rd_move rfl rfl) ?_
        refine AL.settlebx 16 2 rfl rfl rfl (by first | rfl | exact cont_owM _ _ _ _) ?_
        refine AL.no ?_
        refine AL.ro (rd_faddr_bx rfl fo_87_2 rfl rfl ⟨_, _, rfl⟩) ?_
        refine AL.ro (rd_load_bx rfl ag_56 rfl rfl rfl) ?_
        refine AL.ro (rd_move rfl rfl) ?_
        refine AL.on rfl rfl rfl (AOpB.op (op_call (vbegins_c rs m su m2 m1 (Nat.le_trans hJ.hn (by omega)) (fun r hr => Nat.le_trans (hJ.hr r hr) (by decide))) rfl (by kernel_rfl) rfl (none) ?_))
        rintro r rfl
        refine AL.no ?_
        refine AL.ro (rd_un rfl rfl (fun _ => rfl)) ?_
        refine AL.r (rd_pick_f rfl rfl rfl) ?_
        refine AL.nil ?_
        change AW _ _ _ _ _
        refine AW.cond_f rfl ?_
        refine AW.skip ?_
        change AW _ _ _ _ _
        refine AW.seq ?_
        refine AW.region ?_
        refine AL.rm ?_
        refine AL.r (rd_tab0 rfl ag_53 rfl rfl) ?_
        refine AL.op rfl (calloW (rest_open (i := 0) t2 (by omega) t4 t5 u1 0 0 0) [0, 11, 12, 13] ?_)
        rintro y os' ⟨rfl, rfl⟩
        refine AL.noW ?_
        refine AL.rm ?_
        refine AL.r (rd_extract rfl rfl rfl) ?_
        refine AL.r (rd_extract rfl rfl rfl) ?_
        refine AL.r (rd_extract rfl rfl rfl) ?_
        refine AL.ra ?_
        refine AL.ra ?_
        refine AL.ra ?_
        refine AL.nil ?_
        change AW _ _ _ _ _
        refine AW.seq ?_
        refine AW.drawA (by kernel_rfl) ?_
        refine ADA.r 0 rfl (ARdP.a (rdP_move rfl rfl)) rfl ?_
        refine ADA.r 1 rfl (ARdP.a (rdP_bin rfl rfl rfl (fun _ => rfl))) rfl ?_
        refine ADA.r 2 rfl (ARdP.a (rdP_move rfl rfl)) rfl ?_
        refine ADA.r 3 rfl (ARdP.a (rdP_move rfl rfl)) ⟨_, _, rfl, rfl, rfl⟩ ?_
        refine ADA.r 5 rfl (ARdP.a (rdP_move rfl rfl)) ⟨_, _, rfl, rfl, rfl⟩ ?_
        refine ADA.r 7 rfl (ARdP.a (rdP_move rfl rfl)) ⟨_, _, rfl, rfl, rfl⟩ ?_
        refine ADA.b ?_
        refine ADB.all (is := [4, 9]) (by kernel_rfl) (by simp) ?_
        intro i hi
        simp only [List.mem_cons, List.not_mem_nil, or_false] at hi
        rcases hi with rfl | rfl
        ·skip
         refine ⟨_, rfl, ⟨_, _, rfl, rfl, rfl⟩, calloW (vepoch_c 1 1 1 1 byteN ⟨vfile E, false⟩ (vS c2 E hh) (vL (openD byteN (crashD (openD byteN (fuseD (crashD d keep) again) (vfile E)) keep2) (vfile E)) E (rs.take m)) (openD byteN (openD byteN (crashD (openD byteN (fuseD (crashD d keep) again) (vfile E)) keep2) (vfile E)) (vfile E))) [13, 11, 12, 0] ?_⟩
         rintro y os' ⟨rfl, rfl⟩
         refine ADB.noW ?_
         refine ADB.all (is := [6, 9]) (by kernel_rfl) (by simp) ?_
         intro i hi
         simp only [List.mem_cons, List.not_mem_nil, or_false] at hi
         rcases hi with rfl | rfl
         ·skip
          refine ⟨_, rfl, ⟨_, _, rfl, rfl, rfl⟩, calloW (vbytes_c 1 1 1 1 byteN ⟨vfile E, false⟩ (vS c2 E hh) (vL (openD byteN (crashD (openD byteN (fuseD (crashD d keep) again) (vfile E)) keep2) (vfile E)) E (rs.take m)) (openD byteN (openD byteN (crashD (openD byteN (fuseD (crashD d keep) again) (vfile E)) keep2) (vfile E)) (vfile E)) (Nat.le_trans p5 (by decide))) [13, 11, 12, 0] ?_⟩
          rintro y os' ⟨rfl, rfl⟩
          refine ADB.noW ?_
          refine ADB.r 8 rfl (rdP_build rfl pl_87 ze_87 rfl rfl) ⟨_, _, rfl, rfl, rfl⟩ ?_
          refine ADB.mv 9 rfl (AOpB.op (ARd.opB (rd_loadN_bx rfl ag_87 rfl rfl (Nat.le_of_ble_eq_true rfl) rfl) ?_))
          refine ADB.n ?_
          refine ADB.mv 10 rfl (AOpB.op (op_call (vsame_t E 0 0 hh (rs.take m) (Nat.le_trans p5 (by decide)) (Nat.le_trans p6 (by omega)) (fun r hr => Nat.le_trans (p7 r hr) (by decide))) rfl (by kernel_rfl) rfl (none) ?_))
          rintro r rfl
          refine ADB.n ?_
          refine ADB.r 11 rfl (rdP_pick_t rfl rfl rfl) rfl ?_
          refine ADB.r 12 rfl (rdP_assign rfl rfl) rfl ?_
          refine ADB.done (by kernel_rfl) ?_
          change AW _ _ _ _ _
          refine AW.ret ?_
          change ResA _ _ _ _ _
          refine res1 rfl (ResV.tmp rfl) rfl ?_
          rfl
         ·skip
          refine ⟨_, rfl, ⟨_, _, rfl, rfl, rfl⟩, AOpB.op (ARd.opB (rd_loadN_bx rfl ag_87 rfl rfl (Nat.le_of_ble_eq_true rfl) rfl) ?_)⟩
          refine ADB.n ?_
          refine ADB.mv 6 rfl (calloW (vbytes_c 1 1 1 1 byteN ⟨vfile E, false⟩ (vS c2 E hh) (vL (openD byteN (crashD (openD byteN (fuseD (crashD d keep) again) (vfile E)) keep2) (vfile E)) E (rs.take m)) (openD byteN (openD byteN (crashD (openD byteN (fuseD (crashD d keep) again) (vfile E)) keep2) (vfile E)) (vfile E)) (Nat.le_trans p5 (by decide))) [13, 11, 12, 0] ?_)
          rintro y os' ⟨rfl, rfl⟩
          refine ADB.noW ?_
          refine ADB.r 8 rfl (rdP_build rfl pl_87 ze_87 rfl rfl) ⟨_, _, rfl, rfl, rfl⟩ ?_
          refine ADB.mv 10 rfl (AOpB.op (op_call (vsame_t E 0 0 hh (rs.take m) (Nat.le_trans p5 (by decide)) (Nat.le_trans p6 (by omega)) (fun r hr => Nat.le_trans (p7 r hr) (by decide))) rfl (by kernel_rfl) rfl (none) ?_))
          rintro r rfl
          refine ADB.n ?_
          refine ADB.r 11 rfl (rdP_pick_t rfl rfl rfl) rfl ?_
          refine ADB.r 12 rfl (rdP_assign rfl rfl) rfl ?_
          refine ADB.done (by kernel_rfl) ?_
          change AW _ _ _ _ _
          refine AW.ret ?_
          change ResA _ _ _ _ _
          refine res1 rfl (ResV.tmp rfl) rfl ?_
          rfl
        ·skip
         refine ⟨_, rfl, ⟨_, _, rfl, rfl, rfl⟩, AOpB.op (ARd.opB (rd_loadN_bx rfl ag_87 rfl rfl (Nat.le_of_ble_eq_true rfl) rfl) ?_)⟩
         refine ADB.n ?_
         refine ADB.mv 4 rfl (calloW (vepoch_c 1 1 1 1 byteN ⟨vfile E, false⟩ (vS c2 E hh) (vL (openD byteN (crashD (openD byteN (fuseD (crashD d keep) again) (vfile E)) keep2) (vfile E)) E (rs.take m)) (openD byteN (openD byteN (crashD (openD byteN (fuseD (crashD d keep) again) (vfile E)) keep2) (vfile E)) (vfile E))) [13, 11, 12, 0] ?_)
         rintro y os' ⟨rfl, rfl⟩
         refine ADB.noW ?_
         refine ADB.mv 6 rfl (calloW (vbytes_c 1 1 1 1 byteN ⟨vfile E, false⟩ (vS c2 E hh) (vL (openD byteN (crashD (openD byteN (fuseD (crashD d keep) again) (vfile E)) keep2) (vfile E)) E (rs.take m)) (openD byteN (openD byteN (crashD (openD byteN (fuseD (crashD d keep) again) (vfile E)) keep2) (vfile E)) (vfile E)) (Nat.le_trans p5 (by decide))) [13, 11, 12, 0] ?_)
         rintro y os' ⟨rfl, rfl⟩
         refine ADB.noW ?_
         refine ADB.r 8 rfl (rdP_build rfl pl_87 ze_87 rfl rfl) ⟨_, _, rfl, rfl, rfl⟩ ?_
         refine ADB.mv 10 rfl (AOpB.op (op_call (vsame_t E 0 0 hh (rs.take m) (Nat.le_trans p5 (by decide)) (Nat.le_trans p6 (by omega)) (fun r hr => Nat.le_trans (p7 r hr) (by decide))) rfl (by kernel_rfl) rfl (none) ?_))
         rintro r rfl
         refine ADB.n ?_
         refine ADB.r 11 rfl (rdP_pick_t rfl rfl rfl) rfl ?_
         refine ADB.r 12 rfl (rdP_assign rfl rfl) rfl ?_
         refine ADB.done (by kernel_rfl) ?_
         change AW _ _ _ _ _
         refine AW.ret ?_
         change ResA _ _ _ _ _
         refine res1 rfl (ResV.tmp rfl) rfl ?_
         rfl
theorem walk_VaultLasts (w : World) (v0 : Value) (l0 : List Act12) (rp0 : RepS AnyB w v0 (.sl (l0.map Act12.cs))) (a1 : Int) (w1 : (Lit.int .i64 a1).wf = true) (a2 : Int) (w2 : (Lit.int .i64 a2).wf = true) (a3 : Int) (w3 : (Lit.int .i64 a3).wf = true) (a4 : Int) (w4 : (Lit.int .i64 a4).wf = true) :
    Calls Try.prog 14 #[v0, .int .i64 a1, .int .i64 a2, .int .i64 a3, .int .i64 a4] w fun e w' => e = .returned (.bool true) ∧ Below w.heap.size w w' :=
  (vlasts_c l0 a1 a2 a3 a4 (by have := bounds_i64 w1; omega) (by have := bounds_i64 w2; omega) (by have := bounds_i64 w3; omega) (by have := bounds_i64 w4; omega)).law (vs := [v0, .int .i64 a1, .int .i64 a2, .int .i64 a3, .int .i64 a4]) rfl (rep_cons rp0 (rep_cons (.sc _) (rep_cons (.sc _) (rep_cons (.sc _) (rep_cons (.sc _) rep_nil)))))
end Go.Proofs.Ytgjpeldgjpgbcaa
