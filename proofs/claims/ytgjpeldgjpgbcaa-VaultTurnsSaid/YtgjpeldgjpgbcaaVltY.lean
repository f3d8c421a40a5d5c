/- The twelfth law of turns. No conditions. -/
import Derived.Test.YtgjpeldgjpgbcaaVltX
namespace Go.Proofs.Ytgjpeldgjpgbcaa
set_option linter.unusedSimpArgs false
set_option linter.unusedVariables false
set_option maxRecDepth 100000
open Go.RowKit

theorem box_rows {ty : TypeId} {g : Nat} {a b c : AV} {rs : List (List UInt8)} {x : List UInt8} : TK.mk g (.box ty [a, b, .sl (rowsA rs ++ [[.sl (byA x)]]), c]) = TK.mk g (.box ty [a, b, .sl (rowsA (rs ++ [x])), c]) := by
  have : rowsA (rs ++ [x]) = rowsA rs ++ [[.sl (byA x)]] := by simp [rowsA]
  rw [this]
theorem box_rows2 {ty : TypeId} {g E : Nat} {b c d : AV} : TK.mk g (.box ty [.sc (.int .i64 ((E : Int) + 1)), b, c, d]) = TK.mk g (.box ty [.sc (.int .i64 ((E + 1 : Nat) : Int)), b, c, d]) := rfl
theorem rd_st2 {o : Oper} {t : List AV} {st : List TK} {x y : Operand} {E : Int} {b : List UInt8} (ho : o.op = .build 87 #[(0, x), (1, y)]) (hx : evA t x = .sc (.int .i64 E)) (hy : evA t y = .sl (byA b)) : ARd Try.prog o t st (.ag [.sc (.int .i64 E), .sl (byA b), .sl (rowsA []), .sc (.int .i64 0)]) := fun F ρ w0 w a hs hm => by
  obtain ⟨v, h1, h2⟩ := rdP_st2 ho hx hy F ρ w0 w a hs hm
  exact ⟨v, h1, fun w' _ => h2 w'⟩
set_option maxHeartbeats 1000000 in
theorem vturns_c (l : List (List UInt8)) (fu ke : List Int) (hfu : ∀ x ∈ fu, x < 9223372036854775808) (hke : ∀ x ∈ ke, -9223372036854775808 ≤ x ∧ x < 9223372036854775808) : AC Try.prog 13 [.sl (rowsA l), .sl (intsA fu), .sl (intsA ke)] (fun r => r = .s (.sc (.bool true))) := by
  refine AC.of' 153 17 Try.func13 rfl ?_
  change AW _ _ _ _ [TK.mk 0 .off, TK.mk 0 .off, TK.mk 0 .off, TK.mk 0 .off, TK.mk 0 .off, TK.mk 0 .off, TK.mk 0 .off, TK.mk 0 .off, TK.mk 0 .off, TK.mk 0 .off, TK.mk 0 .off, TK.mk 0 .off, TK.mk 0 .off, TK.mk 0 .off, TK.mk 0 .off, TK.mk 0 .off, TK.mk 0 .off]
  refine AW.seq ?_
  refine AW.region ?_
  refine AL.ra ?_
  refine AL.nil ?_
  change AW _ _ _ _ _
  refine AW.seq ?_
  refine AW.seq ?_
  refine AW.region ?_
  refine AL.op rfl (AOpB.op (op_call (awake12_c) rfl (by kernel_rfl) rfl (none) ?_))
  rintro r rfl
  refine AL.no ?_
  refine AL.r (rd_un rfl rfl (fun _ => rfl)) ?_
  refine AL.nil ?_
  change AW _ _ _ _ _
  refine AW.cond_f rfl ?_
  refine AW.skip ?_
  change AW _ _ _ _ _
  refine AW.seq ?_
  refine AW.seq ?_
  refine AW.region ?_
  refine AL.rm ?_
  refine AL.r (rd_len_sl rfl el_56 rfl) ?_
  refine AL.r (rd_bin rfl rfl rfl (fun _ => rfl)) ?_
  refine AL.nil ?_
  change AW _ _ _ _ _
  refine AW.cd rfl (fun h26 => ?_) (fun h26 => ?_)
  ·skip
   refine AW.seq ?_
   refine AW.region ?_
   refine AL.ra ?_
   refine AL.nil ?_
   change AW _ _ _ _ _
   refine AW.ret ?_
   change ResA _ _ _ _ _
   refine res1 rfl (ResV.tmp rfl) rfl ?_
   rfl
  ·skip
   refine AW.skip ?_
   change AW _ _ _ _ _
   refine AW.seq ?_
   refine AW.region ?_
   refine AL.op rfl (AOpB.op (op_call (made_c) rfl (by kernel_rfl) rfl (none) ?_))
   rintro r rfl
   refine AL.no ?_
   refine AL.op rfl (AOpB.op (op_taballoc 11 rfl rfl ?_))
   refine AL.no ?_
   refine AL.op rfl (op_tabstore rfl rfl rfl (tabA_len _) rfl sz_Table ?_)
   refine AL.no ?_
   refine AL.nil ?_
   change AW _ _ _ _ _
   refine AW.seq ?_
   refine AW.region ?_
   refine AL.op rfl (calloW (od_new 150000 (by omega) 0) [0] ?_)
   rintro y os' ⟨rfl, rfl⟩
   refine AL.noW ?_
   refine AL.rm ?_
   refine AL.r (rd_extract rfl rfl rfl) ?_
   refine AL.r (rd_extract rfl rfl rfl) ?_
   refine AL.ra ?_
   refine AL.ra ?_
   refine AL.nil ?_
   change AW _ _ _ _ _
   refine AW.seq ?_
   refine AW.seq ?_
   refine AW.region ?_
   refine AL.rm ?_
   refine AL.r (rd_tab0 rfl ag_53 rfl rfl) ?_
   refine AL.op rfl (calloW (vcreate_c byteN byte_tab 1 0 0 0 (R := 150000) ⟨by omega, by omega⟩) [0, 1, 2, 3] ?_)
   rintro y os' ⟨rfl, rfl⟩
   refine AL.noW ?_
   refine AL.rm ?_
   refine AL.r (rd_extract rfl rfl rfl) ?_
   refine AL.r (rd_extract rfl rfl rfl) ?_
   refine AL.ra ?_
   refine AL.ra ?_
   refine AL.nil ?_
   change AW _ _ _ _ _
   refine AW.seq ?_
   refine AW.region ?_
   refine AL.rm ?_
   refine AL.r (rd_bin rfl rfl rfl (fun _ => rfl)) ?_
   refine AL.nil ?_
   change AW _ _ _ _ _
   refine AW.cond_f rfl ?_
   refine AW.skip ?_
   change AW _ _ _ _ _
   refine AW.seq ?_
   refine AW.region ?_
   refine AL.r (rd_st0 rfl) ?_
   refine AL.op rfl (AOpB.op (op_alloc 12 rfl ze_87 rfl ?_))
   refine AL.no ?_
   refine AL.op rfl (op_store_ rfl rfl rfl rfl rfl sz_87 ?_)
   refine AL.no ?_
   refine AL.nil ?_
   change AW _ _ _ _ _
   refine AW.seq ?_
   refine AW.seq ?_
   refine AW.region ?_
   refine AL.ra ?_
   refine AL.nil ?_
   change AW _ _ _ _ _
   refine AW.block ?_
   refine AW.loopM (ι := Nat × Nat × Nat × List UInt8 × List (List UInt8) × Files × DiskD) [6, 14, 15, 16, 17, 18, 19, 20, 21, 41, 42, 43, 44, 45, 46, 47, 48, 49, 50, 51, 52, 53, 54, 55, 56, 57, 58, 59, 60, 61, 62, 63, 64, 65, 66, 67, 68, 69, 70, 71, 72, 73, 74, 75, 76, 77, 78, 79, 80, 81, 82, 83, 84, 85, 86, 87, 88, 89, 90, 91, 92, 93, 94, 95, 96, 97, 98, 99, 100, 101, 102, 103, 104, 105, 106, 107, 108, 109, 110, 111, 112, 113, 114, 115, 116, 117, 118, 119, 120, 121, 122, 123, 124, 125, 126, 127, 128, 129, 130, 131, 132, 133, 134, 135, 136, 137, 138, 139, 140, 141, 142, 143, 144, 145, 146, 147, 148, 149, 150, 151, 152, 153, 154, 155] (fun ⟨k, E, c, h, rs, F, d⟩ => [(13, .sc (.int .i64 (k : Int)))]) [4, 5, 6, 7, 8, 9, 10, 13, 14, 15, 16] (fun ⟨k, E, c, h, rs, F, d⟩ => [(0, ⟨1, .obj (DiskP d)⟩), (12, ⟨1, .box 87 [.sc (.int .i64 (E : Int)), .sl (byA h), .sl (rowsA rs), .sc (.int .i64 0)]⟩)]) (fun ⟨k, E, c, h, rs, F, d⟩ => k ≤ l.length ∧ VJ k F d E c h rs) (fun ⟨k, E, c, h, rs, F, d⟩ => l.length - k) (0, 0, 1, [], [], fun _ => [], crD 150000) (⟨Nat.zero_le _, vj_new⟩) (by simp only [anys, upds, offs, List.set_cons_zero, List.set_cons_succ]; repeat (first | exact Wk.nil | refine Wk.same ?_ | refine Wk.any ?_)) (by simp only [anys, upds, offs, List.set_cons_zero, List.set_cons_succ]; repeat (first | exact Sk.nil _ | refine Sk.same _ ?_ | refine Sk.scr _ (by decide) ?_ | refine Sk.eq _ (by rfl) ?_)) ?_
   rintro ⟨k, E, c, h, rs, F, d⟩ gs hJ
   refine AW.norm (by simp only [anys, upds, offs, List.set_cons_zero, List.set_cons_succ]; rfl) (by (try simp only [anys, upds, offs, List.set_cons_zero, List.set_cons_succ]); (try rfl)) ?_
   refine AW.seq ?_
   refine AW.seq ?_
   refine AW.region ?_
   obtain ⟨hk, hV⟩ := hJ
   refine AL.rm ?_
   refine AL.rm ?_
   refine AL.r (rd_len_sl rfl el_56 rfl) ?_
   refine AL.r (rd_bin rfl rfl rfl (fun _ => rfl)) ?_
   refine AL.nil ?_
   change AW _ _ _ _ _
   refine AW.cd rfl (fun h44 => ?_) (fun h44 => ?_)
   ·skip
    refine AW.skip ?_
    change AW _ _ _ _ _
    refine AW.seq ?_
    refine AW.block ?_
    refine AW.seq ?_
    refine AW.seq ?_
    refine AW.region ?_
    have hkl : k < l.length := (by simp only [rowsA_len] at *; omega)
    refine AL.rm ?_
    refine AL.rm ?_
    refine AL.r (rd_iaddr_sl rfl el_56 rfl rfl rfl (get_mapA (by omega)) rfl) ?_
    refine AL.r (rd_load_ep rfl ag_29 rfl rfl) ?_
    refine AL.r (rd_len_sl rfl el_29 rfl) ?_
    refine AL.r (rd_bin rfl rfl rfl (fun _ => rfl)) ?_
    refine AL.nil ?_
    change AW _ _ _ _ _
    refine AW.cd rfl (fun h52 => ?_) (fun h52 => ?_)
    ·skip
     refine AW.seq ?_
     refine AW.region ?_
     refine AL.ra ?_
     refine AL.nil ?_
     change AW _ _ _ _ _
     refine AW.ret ?_
     change ResA _ _ _ _ _
     refine res1 rfl (ResV.tmp rfl) rfl ?_
     rfl
    ·skip
     refine AW.skip ?_
     change AW _ _ _ _ _
     refine AW.seq ?_
     refine AW.region ?_
     refine AL.rm ?_
     refine AL.r (rd_tab0 rfl ag_53 rfl rfl) ?_
     refine AL.op rfl (calloW (rest_open (i := k) hV.rest (by omega) hV.si hV.sc hV.opened.1 (gs 4) (gs 5) (gs 6)) [0, 4, 5, 6] ?_)
     rintro y os' ⟨rfl, rfl⟩
     refine AL.noW ?_
     refine AL.rm ?_
     refine AL.r (rd_extract rfl rfl rfl) ?_
     refine AL.r (rd_extract rfl rfl rfl) ?_
     refine AL.r (rd_extract rfl rfl rfl) ?_
     refine AL.ra ?_
     refine AL.ra ?_
     refine AL.ra ?_
     refine AL.nil ?_
     change AW _ _ _ _ _
     refine AW.join (ι := Unit) [6, 60, 61, 62, 63, 64, 65, 66, 67, 68, 69, 70, 71, 72] (fun u72 => []) [] (fun u72 => []) (fun u72 => True) ?_ ?_
     ·skip
      refine AW.seq ?_
      refine AW.drawA (by kernel_rfl) ?_
      refine ADA.r 0 rfl (ARdP.a (rdP_move rfl rfl)) rfl ?_
      refine ADA.r 1 rfl (ARdP.a (rdP_bin rfl rfl rfl (fun _ => rfl))) rfl ?_
      refine ADA.r 2 rfl (ARdP.a (rdP_move rfl rfl)) rfl ?_
      refine ADA.r 3 rfl (ARdP.a (rdP_move rfl rfl)) ⟨_, _, rfl, rfl, rfl⟩ ?_
      refine ADA.r 5 rfl (ARdP.a (rdP_move rfl rfl)) ⟨_, _, rfl, rfl, rfl⟩ ?_
      refine ADA.r 7 rfl (ARdP.a (rdP_move rfl rfl)) ⟨_, _, rfl, rfl, rfl⟩ ?_
      refine ADA.b ?_
      refine ADB.all (is := [4, 9]) (by kernel_rfl) (by simp) ?_
      intro i hi
      simp only [List.mem_cons, List.not_mem_nil, or_false] at hi
      rcases hi with rfl | rfl
      ·skip
       refine ⟨_, rfl, ⟨_, _, rfl, rfl, rfl⟩, calloW (vepoch_c (gs 6 + 1) (gs 4 + 1) (gs 5 + 1) 1 byteN ⟨vfile E, false⟩ (vS c E h) (vL d E rs) (openD byteN d (vfile E))) [6, 4, 5, 0] ?_⟩
       rintro y os' ⟨rfl, rfl⟩
       refine ADB.noW ?_
       refine ADB.all (is := [6, 9]) (by kernel_rfl) (by simp) ?_
       intro i hi
       simp only [List.mem_cons, List.not_mem_nil, or_false] at hi
       rcases hi with rfl | rfl
       ·skip
        refine ⟨_, rfl, ⟨_, _, rfl, rfl, rfl⟩, calloW (vbytes_c (gs 6 + 1) (gs 4 + 1) (gs 5 + 1) 1 byteN ⟨vfile E, false⟩ (vS c E h) (vL d E rs) (openD byteN d (vfile E)) (Nat.le_trans hV.hlen (by omega))) [6, 4, 5, 0] ?_⟩
        rintro y os' ⟨rfl, rfl⟩
        refine ADB.noW ?_
        refine ADB.r 8 rfl (rdP_build rfl pl_87 ze_87 rfl rfl) ⟨_, _, rfl, rfl, rfl⟩ ?_
        refine ADB.mv 9 rfl (AOpB.op (ARd.opB (rd_loadN_bx rfl ag_87 rfl rfl (Nat.le_of_ble_eq_true rfl) rfl) ?_))
        refine ADB.n ?_
        refine ADB.mv 10 rfl (AOpB.op (op_call (vsame_c E E 0 0 h h rs rs (Nat.le_trans hV.hlen (by omega)) (Nat.le_trans hV.hlen (by omega)) (Nat.le_trans hV.rn (by omega)) (Nat.le_trans hV.rn (by omega)) (fun r hr => Nat.le_trans (hV.rl r hr) (by decide)) (fun r hr => Nat.le_trans (hV.rl r hr) (by decide))) rfl (by kernel_rfl) rfl (none) ?_))
        rintro r rfl
        refine ADB.n ?_
        refine ADB.r 11 rfl (rdP_un rfl rfl (fun _ => rfl)) ⟨_, _, rfl, rfl, rfl⟩ ?_
        refine ADB.r 12 rfl (rdP_pick_f rfl rfl rfl) rfl ?_
        refine ADB.done (by kernel_rfl) ?_
        change AW _ _ _ _ _
        refine AW.cd rfl (fun h72 => ?_) (fun h72 => ?_)
        ·skip
         refine AW.seq ?_
         exact (h72 ⟨trivial, trivial, trivial⟩).elim
        ·skip
         refine AW.skip ?_
         refine ⟨(), trivial, (by simp only [anys, upds, offs, List.set_cons_zero, List.set_cons_succ]; repeat (first | exact Wk.nil | refine Wk.same ?_ | refine Wk.any ?_)), (by simp only [anys, upds, offs, List.set_cons_zero, List.set_cons_succ]; repeat (first | exact Sk.nil _ | refine Sk.same _ ?_ | refine Sk.scr _ (by decide) ?_))⟩
       ·skip
        refine ⟨_, rfl, ⟨_, _, rfl, rfl, rfl⟩, AOpB.op (ARd.opB (rd_loadN_bx rfl ag_87 rfl rfl (Nat.le_of_ble_eq_true rfl) rfl) ?_)⟩
        refine ADB.n ?_
        refine ADB.mv 6 rfl (calloW (vbytes_c (gs 6 + 1) (gs 4 + 1) (gs 5 + 1) 1 byteN ⟨vfile E, false⟩ (vS c E h) (vL d E rs) (openD byteN d (vfile E)) (Nat.le_trans hV.hlen (by omega))) [6, 4, 5, 0] ?_)
        rintro y os' ⟨rfl, rfl⟩
        refine ADB.noW ?_
        refine ADB.r 8 rfl (rdP_build rfl pl_87 ze_87 rfl rfl) ⟨_, _, rfl, rfl, rfl⟩ ?_
        refine ADB.mv 10 rfl (AOpB.op (op_call (vsame_c E E 0 0 h h rs rs (Nat.le_trans hV.hlen (by omega)) (Nat.le_trans hV.hlen (by omega)) (Nat.le_trans hV.rn (by omega)) (Nat.le_trans hV.rn (by omega)) (fun r hr => Nat.le_trans (hV.rl r hr) (by decide)) (fun r hr => Nat.le_trans (hV.rl r hr) (by decide))) rfl (by kernel_rfl) rfl (none) ?_))
        rintro r rfl
        refine ADB.n ?_
        refine ADB.r 11 rfl (rdP_un rfl rfl (fun _ => rfl)) ⟨_, _, rfl, rfl, rfl⟩ ?_
        refine ADB.r 12 rfl (rdP_pick_f rfl rfl rfl) rfl ?_
        refine ADB.done (by kernel_rfl) ?_
        change AW _ _ _ _ _
        refine AW.cd rfl (fun h72 => ?_) (fun h72 => ?_)
        ·skip
         refine AW.seq ?_
         exact (h72 ⟨trivial, trivial, trivial⟩).elim
        ·skip
         refine AW.skip ?_
         refine ⟨(), trivial, (by simp only [anys, upds, offs, List.set_cons_zero, List.set_cons_succ]; repeat (first | exact Wk.nil | refine Wk.same ?_ | refine Wk.any ?_)), (by simp only [anys, upds, offs, List.set_cons_zero, List.set_cons_succ]; repeat (first | exact Sk.nil _ | refine Sk.same _ ?_ | refine Sk.scr _ (by decide) ?_))⟩
      ·skip
       refine ⟨_, rfl, ⟨_, _, rfl, rfl, rfl⟩, AOpB.op (ARd.opB (rd_loadN_bx rfl ag_87 rfl rfl (Nat.le_of_ble_eq_true rfl) rfl) ?_)⟩
       refine ADB.n ?_
       refine ADB.mv 4 rfl (calloW (vepoch_c (gs 6 + 1) (gs 4 + 1) (gs 5 + 1) 1 byteN ⟨vfile E, false⟩ (vS c E h) (vL d E rs) (openD byteN d (vfile E))) [6, 4, 5, 0] ?_)
       rintro y os' ⟨rfl, rfl⟩
       refine ADB.noW ?_
       refine ADB.mv 6 rfl (calloW (vbytes_c (gs 6 + 1) (gs 4 + 1) (gs 5 + 1) 1 byteN ⟨vfile E, false⟩ (vS c E h) (vL d E rs) (openD byteN d (vfile E)) (Nat.le_trans hV.hlen (by omega))) [6, 4, 5, 0] ?_)
       rintro y os' ⟨rfl, rfl⟩
       refine ADB.noW ?_
       refine ADB.r 8 rfl (rdP_build rfl pl_87 ze_87 rfl rfl) ⟨_, _, rfl, rfl, rfl⟩ ?_
       refine ADB.mv 10 rfl (AOpB.op (op_call (vsame_c E E 0 0 h h rs rs (Nat.le_trans hV.hlen (by omega)) (Nat.le_trans hV.hlen (by omega)) (Nat.le_trans hV.rn (by omega)) (Nat.le_trans hV.rn (by omega)) (fun r hr => Nat.le_trans (hV.rl r hr) (by decide)) (fun r hr => Nat.le_trans (hV.rl r hr) (by decide))) rfl (by kernel_rfl) rfl (none) ?_))
       rintro r rfl
       refine ADB.n ?_
       refine ADB.r 11 rfl (rdP_un rfl rfl (fun _ => rfl)) ⟨_, _, rfl, rfl, rfl⟩ ?_
       refine ADB.r 12 rfl (rdP_pick_f rfl rfl rfl) rfl ?_
       refine ADB.done (by kernel_rfl) ?_
       change AW _ _ _ _ _
       refine AW.cd rfl (fun h72 => ?_) (fun h72 => ?_)
       ·skip
        refine AW.seq ?_
        exact (h72 ⟨trivial, trivial, trivial⟩).elim
       ·skip
        refine AW.skip ?_
        refine ⟨(), trivial, (by simp only [anys, upds, offs, List.set_cons_zero, List.set_cons_succ]; repeat (first | exact Wk.nil | refine Wk.same ?_ | refine Wk.any ?_)), (by simp only [anys, upds, offs, List.set_cons_zero, List.set_cons_succ]; repeat (first | exact Sk.nil _ | refine Sk.same _ ?_ | refine Sk.scr _ (by decide) ?_))⟩
     ·rintro u72 gs72 hJ72
      refine AW.norm (by simp only [anys, upds, offs, List.set_cons_zero, List.set_cons_succ]; rfl) (by (try simp only [anys, upds, offs, List.set_cons_zero, List.set_cons_succ]); (try rfl)) ?_
      (try dsimp only at hJ72)
      change AW _ _ _ _ _
      refine AW.seq ?_
      refine AW.seq ?_
      refine AW.region ?_
      have hE12 : E ≤ 12 := (by have := hV.le; omega)
      have hlk : l[k].length ≤ 400 := (by omega)
      have hk12 : k < 12 := (by simp only [rowsA_len] at *; omega)
      have hrsl : (rowsA rs).length ≤ 12 := (by have := hV.rn; rw [rowsA_len]; omega)
      obtain ⟨⟨F2, hM⟩, hLf, hLd⟩ := vj_mid hV hk12 hlk
      refine AL.rm ?_
      refine AL.rm ?_
      refine AL.rm ?_
      refine AL.r (rd_iaddr_sl rfl el_56 rfl rfl rfl (get_mapA (by omega)) rfl) ?_
      refine AL.r (rd_load_ep rfl ag_29 rfl rfl) ?_
      refine AL.op rfl (calloW (vj_add hV hk12 hlk (gs 6 + 1) (gs 4 + 1) (gs 5 + 1)) [6, 4, 5, 0] ?_)
      rintro y os' ⟨rfl, rfl⟩
      refine AL.noW ?_
      refine AL.r (rd_bin rfl rfl rfl (fun _ => rfl)) ?_
      refine AL.rm ?_
      refine AL.ro (rd_move rfl rfl) ?_
      refine AL.on rfl rfl rfl (calloW (vj_sync hV hk12 hlk (gs 6 + 1) (gs 4 + 1) (gs 5 + 1)) [6, 4, 5, 0] ?_)
      rintro y os' ⟨rfl, rfl⟩
      refine AL.noW ?_
      refine AL.ro (rd_bin rfl rfl rfl (fun _ => rfl)) ?_
      refine AL.r (rd_pick_f rfl rfl rfl) ?_
      refine AL.nil ?_
      change AW _ _ _ _ _
      refine AW.cond_f rfl ?_
      refine AW.skip ?_
      change AW _ _ _ _ _
      refine AW.seq ?_
      apply AW.drawS (by kernel_rfl)
      ·skip
       refine ADA.r 1 rfl (ARdP.a (rdP_faddr_bx rfl fo_87_2 rfl rfl ⟨_, _, rfl⟩)) rfl ?_
       refine ADA.r 4 rfl (ARdP.a (rdP_move rfl rfl)) rfl ?_
       refine ADA.r 5 rfl (ARdP.a (rdP_move rfl rfl)) rfl ?_
       refine ADA.r 6 rfl (ARdP.a (rdP_iaddr_sl rfl el_56 rfl rfl rfl (get_mapA (by omega)) rfl)) rfl ?_
       refine ADA.r 7 rfl (rdA_load_ep rfl ag_29 rfl rfl) rfl ?_
       refine ADA.b ?_
       refine ADB.all (is := [0, 2, 8]) (by kernel_rfl) (by simp) ?_
       intro i hi
       simp only [List.mem_cons, List.not_mem_nil, or_false] at hi
       rcases hi with rfl | rfl | rfl
       ·skip
        refine ⟨_, rfl, rfl, AOpB.op (bs_own 13 rfl ap_56 ze_29 rfl rfl rfl ?_)⟩
        refine ADB.n ?_
        refine ADB.all (is := [2, 8]) (by kernel_rfl) (by simp) ?_
        intro i hi
        simp only [List.mem_cons, List.not_mem_nil, or_false] at hi
        rcases hi with rfl | rfl
        ·skip
         refine ⟨_, rfl, rfl, AOpB.op (ARd.opB (rd_load_bx rfl ag_56 rfl rfl rfl) ?_)⟩
         refine ADB.n ?_
         refine ADB.all (is := [3, 8]) (by kernel_rfl) (by simp) ?_
         intro i hi
         simp only [List.mem_cons, List.not_mem_nil, or_false] at hi
         rcases hi with rfl | rfl
         ·skip
          refine ⟨_, rfl, rfl, op_append rfl ap_56 rfl rfl (src_s rfl) (by first | omega | (simp; omega) | simp) (by first | omega | (simp; omega) | simp) ?_⟩
          refine ADB.n ?_
          refine ADB.mv 8 rfl (AOpB.op (bs_set rfl ap_56 ze_29 rfl rfl ?_))
          refine ADB.n ?_
          refine ADB.mv 9 rfl (op_append rfl ap_56 rfl rfl (src_s rfl) (by first | omega | (simp; omega) | simp) (by first | omega | (simp; omega) | simp) ?_)
          refine ADB.n ?_
          refine ADB.r 10 rfl (rdP_faddr_bx rfl fo_87_2 rfl rfl ⟨_, _, rfl⟩) rfl ?_
          refine ADB.settle 94 rfl rfl (by first | rfl | exact cont_owM _ _ _ _) ?_
          refine ADB.n ?_
          refine ADB.mv 11 rfl (op_store_ rfl rfl rfl rfl rfl sz_56 ?_)
          refine ADB.n ?_
          refine ADB.done (by kernel_rfl) ?_
          exact ⟨rfl, rfl⟩
         ·skip
          refine ⟨_, rfl, rfl, AOpB.op (bs_set rfl ap_56 ze_29 rfl rfl ?_)⟩
          refine ADB.n ?_
          refine ADB.mv 3 rfl (op_append rfl ap_56 rfl rfl (src_s rfl) (by first | omega | (simp; omega) | simp) (by first | omega | (simp; omega) | simp) ?_)
          refine ADB.n ?_
          refine ADB.mv 9 rfl (op_append rfl ap_56 rfl rfl (src_s rfl) (by first | omega | (simp; omega) | simp) (by first | omega | (simp; omega) | simp) ?_)
          refine ADB.n ?_
          refine ADB.r 10 rfl (rdP_faddr_bx rfl fo_87_2 rfl rfl ⟨_, _, rfl⟩) rfl ?_
          refine ADB.settle 94 rfl rfl (by first | rfl | exact cont_owM _ _ _ _) ?_
          refine ADB.n ?_
          refine ADB.mv 11 rfl (op_store_ rfl rfl rfl rfl rfl sz_56 ?_)
          refine ADB.n ?_
          refine ADB.done (by kernel_rfl) ?_
          exact ⟨rfl, rfl⟩
        ·skip
         refine ⟨_, rfl, rfl, AOpB.op (bs_set rfl ap_56 ze_29 rfl rfl ?_)⟩
         refine ADB.n ?_
         refine ADB.mv 2 rfl (AOpB.op (ARd.opB (rd_load_bx rfl ag_56 rfl rfl rfl) ?_))
         refine ADB.n ?_
         refine ADB.mv 3 rfl (op_append rfl ap_56 rfl rfl (src_s rfl) (by first | omega | (simp; omega) | simp) (by first | omega | (simp; omega) | simp) ?_)
         refine ADB.n ?_
         refine ADB.mv 9 rfl (op_append rfl ap_56 rfl rfl (src_s rfl) (by first | omega | (simp; omega) | simp) (by first | omega | (simp; omega) | simp) ?_)
         refine ADB.n ?_
         refine ADB.r 10 rfl (rdP_faddr_bx rfl fo_87_2 rfl rfl ⟨_, _, rfl⟩) rfl ?_
         refine ADB.settle 94 rfl rfl (by first | rfl | exact cont_owM _ _ _ _) ?_
         refine ADB.n ?_
         refine ADB.mv 11 rfl (op_store_ rfl rfl rfl rfl rfl sz_56 ?_)
         refine ADB.n ?_
         refine ADB.done (by kernel_rfl) ?_
         exact ⟨rfl, rfl⟩
       ·skip
        refine ⟨_, rfl, rfl, AOpB.op (ARd.opB (rd_load_bx rfl ag_56 rfl rfl rfl) ?_)⟩
        refine ADB.n ?_
        refine ADB.all (is := [0, 8]) (by kernel_rfl) (by simp) ?_
        intro i hi
        simp only [List.mem_cons, List.not_mem_nil, or_false] at hi
        rcases hi with rfl | rfl
        ·skip
         refine ⟨_, rfl, rfl, AOpB.op (bs_own 13 rfl ap_56 ze_29 rfl rfl rfl ?_)⟩
         refine ADB.n ?_
         refine ADB.all (is := [3, 8]) (by kernel_rfl) (by simp) ?_
         intro i hi
         simp only [List.mem_cons, List.not_mem_nil, or_false] at hi
         rcases hi with rfl | rfl
         ·skip
          refine ⟨_, rfl, rfl, op_append rfl ap_56 rfl rfl (src_s rfl) (by first | omega | (simp; omega) | simp) (by first | omega | (simp; omega) | simp) ?_⟩
          refine ADB.n ?_
          refine ADB.mv 8 rfl (AOpB.op (bs_set rfl ap_56 ze_29 rfl rfl ?_))
          refine ADB.n ?_
          refine ADB.mv 9 rfl (op_append rfl ap_56 rfl rfl (src_s rfl) (by first | omega | (simp; omega) | simp) (by first | omega | (simp; omega) | simp) ?_)
          refine ADB.n ?_
          refine ADB.r 10 rfl (rdP_faddr_bx rfl fo_87_2 rfl rfl ⟨_, _, rfl⟩) rfl ?_
          refine ADB.settle 94 rfl rfl (by first | rfl | exact cont_owM _ _ _ _) ?_
          refine ADB.n ?_
          refine ADB.mv 11 rfl (op_store_ rfl rfl rfl rfl rfl sz_56 ?_)
          refine ADB.n ?_
          refine ADB.done (by kernel_rfl) ?_
          exact ⟨rfl, rfl⟩
         ·skip
          refine ⟨_, rfl, rfl, AOpB.op (bs_set rfl ap_56 ze_29 rfl rfl ?_)⟩
          refine ADB.n ?_
          refine ADB.mv 3 rfl (op_append rfl ap_56 rfl rfl (src_s rfl) (by first | omega | (simp; omega) | simp) (by first | omega | (simp; omega) | simp) ?_)
          refine ADB.n ?_
          refine ADB.mv 9 rfl (op_append rfl ap_56 rfl rfl (src_s rfl) (by first | omega | (simp; omega) | simp) (by first | omega | (simp; omega) | simp) ?_)
          refine ADB.n ?_
          refine ADB.r 10 rfl (rdP_faddr_bx rfl fo_87_2 rfl rfl ⟨_, _, rfl⟩) rfl ?_
          refine ADB.settle 94 rfl rfl (by first | rfl | exact cont_owM _ _ _ _) ?_
          refine ADB.n ?_
          refine ADB.mv 11 rfl (op_store_ rfl rfl rfl rfl rfl sz_56 ?_)
          refine ADB.n ?_
          refine ADB.done (by kernel_rfl) ?_
          exact ⟨rfl, rfl⟩
        ·skip
         refine ⟨_, rfl, rfl, AOpB.op (bs_set rfl ap_56 ze_29 rfl rfl ?_)⟩
         refine ADB.n ?_
         refine ADB.mv 0 rfl (AOpB.op (bs_own 13 rfl ap_56 ze_29 rfl rfl rfl ?_))
         refine ADB.n ?_
         refine ADB.mv 3 rfl (op_append rfl ap_56 rfl rfl (src_s rfl) (by first | omega | (simp; omega) | simp) (by first | omega | (simp; omega) | simp) ?_)
         refine ADB.n ?_
         refine ADB.mv 9 rfl (op_append rfl ap_56 rfl rfl (src_s rfl) (by first | omega | (simp; omega) | simp) (by first | omega | (simp; omega) | simp) ?_)
         refine ADB.n ?_
         refine ADB.r 10 rfl (rdP_faddr_bx rfl fo_87_2 rfl rfl ⟨_, _, rfl⟩) rfl ?_
         refine ADB.settle 94 rfl rfl (by first | rfl | exact cont_owM _ _ _ _) ?_
         refine ADB.n ?_
         refine ADB.mv 11 rfl (op_store_ rfl rfl rfl rfl rfl sz_56 ?_)
         refine ADB.n ?_
         refine ADB.done (by kernel_rfl) ?_
         exact ⟨rfl, rfl⟩
       ·skip
        refine ⟨_, rfl, rfl, AOpB.op (bs_set rfl ap_56 ze_29 rfl rfl ?_)⟩
        refine ADB.n ?_
        refine ADB.all (is := [0, 2]) (by kernel_rfl) (by simp) ?_
        intro i hi
        simp only [List.mem_cons, List.not_mem_nil, or_false] at hi
        rcases hi with rfl | rfl
        ·skip
         refine ⟨_, rfl, rfl, AOpB.op (bs_own 13 rfl ap_56 ze_29 rfl rfl rfl ?_)⟩
         refine ADB.n ?_
         refine ADB.mv 2 rfl (AOpB.op (ARd.opB (rd_load_bx rfl ag_56 rfl rfl rfl) ?_))
         refine ADB.n ?_
         refine ADB.mv 3 rfl (op_append rfl ap_56 rfl rfl (src_s rfl) (by first | omega | (simp; omega) | simp) (by first | omega | (simp; omega) | simp) ?_)
         refine ADB.n ?_
         refine ADB.mv 9 rfl (op_append rfl ap_56 rfl rfl (src_s rfl) (by first | omega | (simp; omega) | simp) (by first | omega | (simp; omega) | simp) ?_)
         refine ADB.n ?_
         refine ADB.r 10 rfl (rdP_faddr_bx rfl fo_87_2 rfl rfl ⟨_, _, rfl⟩) rfl ?_
         refine ADB.settle 94 rfl rfl (by first | rfl | exact cont_owM _ _ _ _) ?_
         refine ADB.n ?_
         refine ADB.mv 11 rfl (op_store_ rfl rfl rfl rfl rfl sz_56 ?_)
         refine ADB.n ?_
         refine ADB.done (by kernel_rfl) ?_
         exact ⟨rfl, rfl⟩
        ·skip
         refine ⟨_, rfl, rfl, AOpB.op (ARd.opB (rd_load_bx rfl ag_56 rfl rfl rfl) ?_)⟩
         refine ADB.n ?_
         refine ADB.mv 0 rfl (AOpB.op (bs_own 13 rfl ap_56 ze_29 rfl rfl rfl ?_))
         refine ADB.n ?_
         refine ADB.mv 3 rfl (op_append rfl ap_56 rfl rfl (src_s rfl) (by first | omega | (simp; omega) | simp) (by first | omega | (simp; omega) | simp) ?_)
         refine ADB.n ?_
         refine ADB.mv 9 rfl (op_append rfl ap_56 rfl rfl (src_s rfl) (by first | omega | (simp; omega) | simp) (by first | omega | (simp; omega) | simp) ?_)
         refine ADB.n ?_
         refine ADB.r 10 rfl (rdP_faddr_bx rfl fo_87_2 rfl rfl ⟨_, _, rfl⟩) rfl ?_
         refine ADB.settle 94 rfl rfl (by first | rfl | exact cont_owM _ _ _ _) ?_
         refine ADB.n ?_
         refine ADB.mv 11 rfl (op_store_ rfl rfl rfl rfl rfl sz_56 ?_)
         refine ADB.n ?_
         refine ADB.done (by kernel_rfl) ?_
         exact ⟨rfl, rfl⟩
      skip
      change AW _ _ _ _ _
      refine AW.join (ι := DiskD) [96, 97, 98, 99, 100, 101, 102, 103, 104, 105] (fun d3 => []) [] (fun d3 => [(0, ⟨1, .obj (DiskP d3)⟩)]) (fun d3 => VM k F2 d3 E c h (rs ++ [l[k]])) ?_ ?_
      ·skip
       refine AW.seq ?_
       refine AW.region ?_
       refine AL.rm ?_
       refine AL.rm ?_
       refine AL.r (rd_len_sl rfl el_81 rfl) ?_
       refine AL.r (rd_bin rfl rfl rfl (fun _ => rfl)) ?_
       refine AL.nil ?_
       change AW _ _ _ _ _
       refine AW.cd rfl (fun h99 => ?_) (fun h99 => ?_)
       ·skip
        refine AW.region ?_
        have hfl : k < fu.length := (by simp only [intsA_len] at h99; omega)
        refine AL.rm ?_
        refine AL.rm ?_
        refine AL.rm ?_
        refine AL.r (rd_iaddr_sl rfl el_81 rfl rfl rfl (get_mapA (by omega)) rfl) ?_
        refine AL.r (rd_load_ep rfl ag_3 rfl rfl) ?_
        refine AL.op rfl (calloW (od_fuse (tD d E rs l[k]) 1 fu[k]) [0] ?_)
        rintro y os' ⟨rfl, rfl⟩
        refine AL.noW ?_
        refine AL.nil ?_
        refine ⟨fuseD (tD d E rs l[k]) fu[k], hM.fuse _ (hfu _ (List.getElem_mem _)), (by simp only [anys, upds, offs, List.set_cons_zero, List.set_cons_succ]; repeat (first | exact Wk.nil | refine Wk.same ?_ | refine Wk.any ?_)), (by simp only [anys, upds, offs, List.set_cons_zero, List.set_cons_succ]; repeat (first | exact Sk.nil _ | refine Sk.same _ ?_ | refine Sk.scr _ (by decide) ?_))⟩
       ·skip
        refine AW.skip ?_
        refine ⟨tD d E rs l[k], hM, (by simp only [anys, upds, offs, List.set_cons_zero, List.set_cons_succ]; repeat (first | exact Wk.nil | refine Wk.same ?_ | refine Wk.any ?_)), (by simp only [anys, upds, offs, List.set_cons_zero, List.set_cons_succ]; repeat (first | exact Sk.nil _ | refine Sk.same _ ?_ | refine Sk.scr _ (by decide) ?_))⟩
      ·rintro d3 gs99 hJ99
       refine AW.norm (by simp only [anys, upds, offs, List.set_cons_zero, List.set_cons_succ]; rfl) (by (try simp only [anys, upds, offs, List.set_cons_zero, List.set_cons_succ]); (try rfl)) ?_
       (try dsimp only at hJ99)
       change AW _ _ _ _ _
       refine AW.seq ?_
       refine AW.region ?_
       refine AL.rm ?_
       refine AL.rm ?_
       refine AL.rm ?_
       refine AL.r (rd_iaddr_sl rfl el_56 rfl rfl rfl (get_mapA (by omega)) rfl) ?_
       refine AL.r (rd_load_ep rfl ag_29 rfl rfl) ?_
       refine AL.op rfl (calloW (vfold_c (gs 6 + 1) (gs 4 + 1) (gs 5 + 1) 1 (gs 7) byteN byte_tab ⟨((vfile E : Nat) : Int), false⟩ (vS c E h) (tL d E rs l[k]) d3 hJ99.rest.gro.ok (by omega) (vfile E) (vfile_23 E) rfl (c := c) (e := E) ⟨rfl, rfl, rfl, by omega, hV.si.c2, by have := hV.le; omega⟩ l[k]) [6, 4, 5, 0, 7] ?_)
       rintro y os' ⟨gl2, h7, rfl, rfl⟩
       refine AL.noW ?_
       refine AL.r (rd_bin rfl rfl rfl (fun _ => rfl)) ?_
       refine AL.ra ?_
       refine AL.nil ?_
       change AW _ _ _ _ _
       refine AW.seq ?_
       refine AW.region ?_
       refine AL.ra ?_
       refine AL.nil ?_
       change AW _ _ _ _ _
       refine AW.join (ι := Int) [113, 114, 115, 116, 117, 118, 119, 120] (fun kp => [(18, .sc (.int .i64 kp))]) [] (fun kp => []) (fun kp => -9223372036854775808 ≤ kp ∧ kp < 9223372036854775808) ?_ ?_
       ·skip
        refine AW.seq ?_
        refine AW.region ?_
        refine AL.rm ?_
        refine AL.rm ?_
        refine AL.r (rd_len_sl rfl el_81 rfl) ?_
        refine AL.r (rd_bin rfl rfl rfl (fun _ => rfl)) ?_
        refine AL.nil ?_
        change AW _ _ _ _ _
        refine AW.cd rfl (fun h116 => ?_) (fun h116 => ?_)
        ·skip
         refine AW.region ?_
         have hkl2 : k < ke.length := (by simp only [intsA_len] at h116; omega)
         refine AL.rm ?_
         refine AL.rm ?_
         refine AL.r (rd_iaddr_sl rfl el_81 rfl rfl rfl (get_mapA (by omega)) rfl) ?_
         refine AL.r (rd_load_ep rfl ag_3 rfl rfl) ?_
         refine AL.ra ?_
         refine AL.nil ?_
         refine ⟨ke[k], hke _ (List.getElem_mem _), (by simp only [anys, upds, offs, List.set_cons_zero, List.set_cons_succ]; repeat (first | exact Wk.nil | refine Wk.same ?_ | refine Wk.any ?_)), (by simp only [anys, upds, offs, List.set_cons_zero, List.set_cons_succ]; repeat (first | exact Sk.nil _ | refine Sk.same _ ?_ | refine Sk.scr _ (by decide) ?_))⟩
        ·skip
         refine AW.skip ?_
         refine ⟨0, by omega, (by simp only [anys, upds, offs, List.set_cons_zero, List.set_cons_succ]; repeat (first | exact Wk.nil | refine Wk.same ?_ | refine Wk.any ?_)), (by simp only [anys, upds, offs, List.set_cons_zero, List.set_cons_succ]; repeat (first | exact Sk.nil _ | refine Sk.same _ ?_ | refine Sk.scr _ (by decide) ?_))⟩
       ·rintro kp gs116 hJ116
        refine AW.norm (by simp only [anys, upds, offs, List.set_cons_zero, List.set_cons_succ]; rfl) (by (try simp only [anys, upds, offs, List.set_cons_zero, List.set_cons_succ]); (try rfl)) ?_
        (try dsimp only at hJ116)
        change AW _ _ _ _ _
        refine AW.seq ?_
        refine AW.region ?_
        obtain ⟨F', q1, q2, q3⟩ := hJ99.folded hLf hLd (by have := hV.le; omega) (by omega) hlk kp
        obtain ⟨E2, c2, h2, rs2, n1, n2, n3, ⟨F3, n4⟩, n5⟩ := vm_either hV.le hV.rn hV.rl hlk q1 rfl q2 q3
        refine AL.rm ?_
        refine AL.rm ?_
        refine AL.op rfl (calloW (ok_crash (foldO_Ok hJ99.rest.gro.ok (vfile_23 E)) (by omega) 1 kp hJ116) [0] ?_)
        rintro y os' ⟨rfl, rfl⟩
        refine AL.noW ?_
        refine AL.nil ?_
        change AW _ _ _ _ _
        refine AW.seq ?_
        refine AW.region ?_
        refine AL.rm ?_
        refine AL.r (rd_tab0 rfl ag_53 rfl rfl) ?_
        refine AL.op rfl (calloW (rest_open (i := k) q1 (by omega) n1 n2 n3 (gs 8) (gs 9) (gs 10)) [0, 8, 9, 10] ?_)
        rintro y os' ⟨rfl, rfl⟩
        refine AL.noW ?_
        refine AL.rm ?_
        refine AL.r (rd_extract rfl rfl rfl) ?_
        refine AL.r (rd_extract rfl rfl rfl) ?_
        refine AL.r (rd_extract rfl rfl rfl) ?_
        refine AL.ra ?_
        refine AL.ra ?_
        refine AL.ra ?_
        refine AL.nil ?_
        change AW _ _ _ _ _
        refine AW.join (ι := Unit) [6, 131, 132, 133, 134, 135, 136, 137, 138, 139, 140, 141, 142] (fun u142 => []) [] (fun u142 => []) (fun u142 => True) ?_ ?_
        ·skip
         refine AW.seq ?_
         refine AW.drawA (by kernel_rfl) ?_
         refine ADA.r 0 rfl (ARdP.a (rdP_move rfl rfl)) rfl ?_
         refine ADA.r 1 rfl (ARdP.a (rdP_bin rfl rfl rfl (fun _ => rfl))) rfl ?_
         refine ADA.r 2 rfl (ARdP.a (rdP_move rfl rfl)) rfl ?_
         refine ADA.r 3 rfl (ARdP.a (rdP_move rfl rfl)) ⟨_, _, rfl, rfl, rfl⟩ ?_
         refine ADA.r 4 rfl (ARdP.a (rdP_move rfl rfl)) ⟨_, _, rfl, rfl, rfl⟩ ?_
         refine ADA.fk (d := 135) rfl (fun h135 => ?_) (fun h135 => ?_)
         ·skip
          refine ADA.n ?_
          refine ADA.r 5 rfl (ARdP.a (rdP_move rfl rfl)) ⟨_, _, rfl, rfl, rfl⟩ ?_
          refine ADA.r 7 rfl (ARdP.a (rdP_faddr_bx rfl fo_87_0 rfl rfl ⟨_, _, rfl⟩)) ⟨_, _, rfl, rfl, rfl⟩ ?_
          refine ADA.b ?_
          refine ADB.all (is := [6, 8]) (by kernel_rfl) (by simp) ?_
          intro i hi
          simp only [List.mem_cons, List.not_mem_nil, or_false] at hi
          rcases hi with rfl | rfl
          ·skip
           refine ⟨_, rfl, ⟨_, _, rfl, rfl, rfl⟩, calloW (vepoch_c (gs 10 + 1) (gs 8 + 1) (gs 9 + 1) 1 byteN ⟨vfile E2, false⟩ (vS c2 E2 h2) (vL (crashD (foldO byteN ⟨((vfile E : Nat) : Int), false⟩ (vS c E h) (tL d E rs l[k]) d3 (vfile E) c E l[k]).d kp) E2 rs2) (openD byteN (crashD (foldO byteN ⟨((vfile E : Nat) : Int), false⟩ (vS c E h) (tL d E rs l[k]) d3 (vfile E) c E l[k]).d kp) (vfile E2))) [10, 8, 9, 0] ?_⟩
           rintro y os' ⟨rfl, rfl⟩
           refine ADB.noW ?_
           refine ADB.mv 8 rfl (AOpB.op (ARd.opB (rd_load_bx rfl ag_2 rfl rfl rfl) ?_))
           refine ADB.n ?_
           refine ADB.r 9 rfl (rdP_bin rfl rfl rfl (fun _ => rfl)) ⟨_, _, rfl, rfl, rfl⟩ ?_
           refine ADB.r 10 rfl (rdP_pick_t rfl rfl rfl) ⟨_, _, rfl, rfl, rfl⟩ ?_
           refine ADB.r 11 rfl (rdP_pick_f rfl rfl rfl) rfl ?_
           refine ADB.done (by kernel_rfl) ?_
           change AW _ _ _ _ _
           refine AW.cd rfl (fun h142 => ?_) (fun h142 => ?_)
           ·skip
            refine AW.seq ?_
            exact (turn_dead n5 h135 h142).elim
           ·skip
            refine AW.skip ?_
            refine ⟨(), trivial, (by simp only [anys, upds, offs, List.set_cons_zero, List.set_cons_succ]; repeat (first | exact Wk.nil | refine Wk.same ?_ | refine Wk.any ?_)), (by simp only [anys, upds, offs, List.set_cons_zero, List.set_cons_succ]; repeat (first | exact Sk.nil _ | refine Sk.same _ ?_ | refine Sk.scr _ (by decide) ?_))⟩
          ·skip
           refine ⟨_, rfl, ⟨_, _, rfl, rfl, rfl⟩, AOpB.op (ARd.opB (rd_load_bx rfl ag_2 rfl rfl rfl) ?_)⟩
           refine ADB.n ?_
           refine ADB.mv 6 rfl (calloW (vepoch_c (gs 10 + 1) (gs 8 + 1) (gs 9 + 1) 1 byteN ⟨vfile E2, false⟩ (vS c2 E2 h2) (vL (crashD (foldO byteN ⟨((vfile E : Nat) : Int), false⟩ (vS c E h) (tL d E rs l[k]) d3 (vfile E) c E l[k]).d kp) E2 rs2) (openD byteN (crashD (foldO byteN ⟨((vfile E : Nat) : Int), false⟩ (vS c E h) (tL d E rs l[k]) d3 (vfile E) c E l[k]).d kp) (vfile E2))) [10, 8, 9, 0] ?_)
           rintro y os' ⟨rfl, rfl⟩
           refine ADB.noW ?_
           refine ADB.r 9 rfl (rdP_bin rfl rfl rfl (fun _ => rfl)) ⟨_, _, rfl, rfl, rfl⟩ ?_
           refine ADB.r 10 rfl (rdP_pick_t rfl rfl rfl) ⟨_, _, rfl, rfl, rfl⟩ ?_
           refine ADB.r 11 rfl (rdP_pick_f rfl rfl rfl) rfl ?_
           refine ADB.done (by kernel_rfl) ?_
           change AW _ _ _ _ _
           refine AW.cd rfl (fun h142 => ?_) (fun h142 => ?_)
           ·skip
            refine AW.seq ?_
            exact (turn_dead n5 h135 h142).elim
           ·skip
            refine AW.skip ?_
            refine ⟨(), trivial, (by simp only [anys, upds, offs, List.set_cons_zero, List.set_cons_succ]; repeat (first | exact Wk.nil | refine Wk.same ?_ | refine Wk.any ?_)), (by simp only [anys, upds, offs, List.set_cons_zero, List.set_cons_succ]; repeat (first | exact Sk.nil _ | refine Sk.same _ ?_ | refine Sk.scr _ (by decide) ?_))⟩
         ·skip
          refine ADA.n ?_
          refine ADA.s 5 rfl ⟨_, _, rfl, rfl, rfl⟩ ?_
          refine ADA.s 6 rfl ⟨_, _, rfl, rfl, rfl⟩ ?_
          refine ADA.s 7 rfl ⟨_, _, rfl, rfl, rfl⟩ ?_
          refine ADA.s 8 rfl ⟨_, _, rfl, rfl, rfl⟩ ?_
          refine ADA.s 9 rfl ⟨_, _, rfl, rfl, rfl⟩ ?_
          refine ADA.r 10 rfl (ARdP.a (rdP_pick_f rfl rfl rfl)) ⟨_, _, rfl, rfl, rfl⟩ ?_
          refine ADA.r 11 rfl (ARdP.a (rdP_pick_f rfl rfl rfl)) rfl ?_
          refine ADA.done (by kernel_rfl) ?_
          change AW _ _ _ _ _
          refine AW.cond_f rfl ?_
          refine AW.skip ?_
          refine ⟨(), trivial, (by simp only [anys, upds, offs, List.set_cons_zero, List.set_cons_succ]; repeat (first | exact Wk.nil | refine Wk.same ?_ | refine Wk.any ?_)), (by simp only [anys, upds, offs, List.set_cons_zero, List.set_cons_succ]; repeat (first | exact Sk.nil _ | refine Sk.same _ ?_ | refine Sk.scr _ (by decide) ?_))⟩
        ·rintro u142 gs142 hJ142
         refine AW.norm (by simp only [anys, upds, offs, List.set_cons_zero, List.set_cons_succ]; rfl) (by (try simp only [anys, upds, offs, List.set_cons_zero, List.set_cons_succ]); (try rfl)) ?_
         (try dsimp only at hJ142)
         change AW _ _ _ _ _
         refine AW.seq ?_
         refine AW.drawA (by kernel_rfl) ?_
         refine ADA.r 0 rfl (ARdP.a (rdP_move rfl rfl)) rfl ?_
         refine ADA.r 2 rfl (ARdP.a (rdP_faddr_bx rfl fo_87_0 rfl rfl ⟨_, _, rfl⟩)) rfl ?_
         refine ADA.b ?_
         refine ADB.all (is := [1, 3]) (by kernel_rfl) (by simp) ?_
         intro i hi
         simp only [List.mem_cons, List.not_mem_nil, or_false] at hi
         rcases hi with rfl | rfl
         ·skip
          refine ⟨_, rfl, rfl, calloW (vepoch_c (gs 10 + 1) (gs 8 + 1) (gs 9 + 1) 1 byteN ⟨vfile E2, false⟩ (vS c2 E2 h2) (vL (crashD (foldO byteN ⟨((vfile E : Nat) : Int), false⟩ (vS c E h) (tL d E rs l[k]) d3 (vfile E) c E l[k]).d kp) E2 rs2) (openD byteN (crashD (foldO byteN ⟨((vfile E : Nat) : Int), false⟩ (vS c E h) (tL d E rs l[k]) d3 (vfile E) c E l[k]).d kp) (vfile E2))) [10, 8, 9, 0] ?_⟩
          rintro y os' ⟨rfl, rfl⟩
          refine ADB.noW ?_
          refine ADB.mv 3 rfl (AOpB.op (ARd.opB (rd_load_bx rfl ag_2 rfl rfl rfl) ?_))
          refine ADB.n ?_
          refine ADB.r 4 rfl (rdP_bin rfl rfl rfl (fun _ => rfl)) rfl ?_
          refine ADB.done (by kernel_rfl) ?_
          change AW _ _ _ _ _
          refine AW.cd rfl (fun h147 => ?_) (fun h147 => ?_)
          ·skip
           apply AW.drawS (by kernel_rfl)
           ·skip
            refine ADA.r 0 rfl (ARdP.a (rdP_faddr_bx rfl fo_87_0 rfl rfl ⟨_, _, rfl⟩)) rfl ?_
            refine ADA.r 3 rfl (ARdP.a (rdP_move rfl rfl)) rfl ?_
            refine ADA.r 4 rfl (ARdP.a (rdP_move rfl rfl)) rfl ?_
            refine ADA.r 5 rfl (ARdP.a (rdP_iaddr_sl rfl el_56 rfl rfl rfl (get_mapA (by omega)) rfl)) rfl ?_
            refine ADA.r 6 rfl (rdA_load_ep rfl ag_29 rfl rfl) rfl ?_
            refine ADA.b ?_
            refine ADB.mv 1 rfl (AOpB.op (ARd.opB (rd_load_bx rfl ag_2 rfl rfl rfl) ?_))
            refine ADB.n ?_
            refine ADB.r 2 rfl (rdP_arith_add rfl rfl rfl (by first | exact IntWalk.i64_in _ (by omega) | rfl)) rfl ?_
            refine ADB.mv 7 rfl (AOpB.op (ARd.opB (rd_st2 rfl rfl rfl) ?_))
            refine ADB.n ?_
            refine ADB.mv 8 rfl (op_store_ rfl rfl rfl rfl rfl sz_87 ?_)
            refine ADB.n ?_
            refine ADB.done (by kernel_rfl) ?_
            exact ⟨rfl, rfl⟩
           skip
           change AW _ _ _ _ _
           refine AW.region ?_
           refine AL.rm ?_
           refine AL.r (rd_arith_add rfl rfl rfl (by first | exact IntWalk.i64_in _ (by omega) | rfl)) ?_
           refine AL.ra ?_
           refine AL.nil ?_
           refine ⟨(k + 1, E + 1, c2, l[k], [], F3, (openD byteN (crashD (foldO byteN ⟨((vfile E : Nat) : Int), false⟩ (vS c E h) (tL d E rs l[k]) d3 (vfile E) c E l[k]).d kp) (vfile E2))), ?_, by first | omega | (simp only []; omega), ?_, ?_⟩
           ·exact ⟨hkl, turn_yes n4 n5 h147⟩
           ·simp only [anys, upds, offs, List.set_cons_zero, List.set_cons_succ]; repeat (first | exact Wk.nil | refine Wk.same ?_ | refine Wk.any ?_)
           ·simp only [anys, upds, offs, List.set_cons_zero, List.set_cons_succ]; repeat (first | exact Sk.nil _ | refine Sk.same _ ?_ | refine Sk.scr _ (by decide) ?_ | refine Sk.eq _ (by first | rfl | exact box_rows | exact box_rows2) ?_)
          ·skip
           refine AW.skip ?_
           change AW _ _ _ _ _
           refine AW.region ?_
           refine AL.rm ?_
           refine AL.r (rd_arith_add rfl rfl rfl (by first | exact IntWalk.i64_in _ (by omega) | rfl)) ?_
           refine AL.ra ?_
           refine AL.nil ?_
           refine ⟨(k + 1, E, c2, h, rs ++ [l[k]], F3, (openD byteN (crashD (foldO byteN ⟨((vfile E : Nat) : Int), false⟩ (vS c E h) (tL d E rs l[k]) d3 (vfile E) c E l[k]).d kp) (vfile E2))), ?_, by first | omega | (simp only []; omega), ?_, ?_⟩
           ·exact ⟨hkl, turn_no n4 n5 h147⟩
           ·simp only [anys, upds, offs, List.set_cons_zero, List.set_cons_succ]; repeat (first | exact Wk.nil | refine Wk.same ?_ | refine Wk.any ?_)
           ·simp only [anys, upds, offs, List.set_cons_zero, List.set_cons_succ]; repeat (first | exact Sk.nil _ | refine Sk.same _ ?_ | refine Sk.scr _ (by decide) ?_ | refine Sk.eq _ (by first | rfl | exact box_rows | exact box_rows2) ?_)
         ·skip
          refine ⟨_, rfl, rfl, AOpB.op (ARd.opB (rd_load_bx rfl ag_2 rfl rfl rfl) ?_)⟩
          refine ADB.n ?_
          refine ADB.mv 1 rfl (calloW (vepoch_c (gs 10 + 1) (gs 8 + 1) (gs 9 + 1) 1 byteN ⟨vfile E2, false⟩ (vS c2 E2 h2) (vL (crashD (foldO byteN ⟨((vfile E : Nat) : Int), false⟩ (vS c E h) (tL d E rs l[k]) d3 (vfile E) c E l[k]).d kp) E2 rs2) (openD byteN (crashD (foldO byteN ⟨((vfile E : Nat) : Int), false⟩ (vS c E h) (tL d E rs l[k]) d3 (vfile E) c E l[k]).d kp) (vfile E2))) [10, 8, 9, 0] ?_)
          rintro y os' ⟨rfl, rfl⟩
          refine ADB.noW ?_
          refine ADB.r 4 rfl (rdP_bin rfl rfl rfl (fun _ => rfl)) rfl ?_
          refine ADB.done (by kernel_rfl) ?_
          change AW _ _ _ _ _
          refine AW.cd rfl (fun h147 => ?_) (fun h147 => ?_)
          ·skip
           apply AW.drawS (by kernel_rfl)
           ·skip
            refine ADA.r 0 rfl (ARdP.a (rdP_faddr_bx rfl fo_87_0 rfl rfl ⟨_, _, rfl⟩)) rfl ?_
            refine ADA.r 3 rfl (ARdP.a (rdP_move rfl rfl)) rfl ?_
            refine ADA.r 4 rfl (ARdP.a (rdP_move rfl rfl)) rfl ?_
            refine ADA.r 5 rfl (ARdP.a (rdP_iaddr_sl rfl el_56 rfl rfl rfl (get_mapA (by omega)) rfl)) rfl ?_
            refine ADA.r 6 rfl (rdA_load_ep rfl ag_29 rfl rfl) rfl ?_
            refine ADA.b ?_
            refine ADB.mv 1 rfl (AOpB.op (ARd.opB (rd_load_bx rfl ag_2 rfl rfl rfl) ?_))
            refine ADB.n ?_
            refine ADB.r 2 rfl (rdP_arith_add rfl rfl rfl (by first | exact IntWalk.i64_in _ (by omega) | rfl)) rfl ?_
            refine ADB.mv 7 rfl (AOpB.op (ARd.opB (rd_st2 rfl rfl rfl) ?_))
            refine ADB.n ?_
            refine ADB.mv 8 rfl (op_store_ rfl rfl rfl rfl rfl sz_87 ?_)
            refine ADB.n ?_
            refine ADB.done (by kernel_rfl) ?_
            exact ⟨rfl, rfl⟩
           skip
           change AW _ _ _ _ _
           refine AW.region ?_
           refine AL.rm ?_
           refine AL.r (rd_arith_add rfl rfl rfl (by first | exact IntWalk.i64_in _ (by omega) | rfl)) ?_
           refine AL.ra ?_
           refine AL.nil ?_
           refine ⟨(k + 1, E + 1, c2, l[k], [], F3, (openD byteN (crashD (foldO byteN ⟨((vfile E : Nat) : Int), false⟩ (vS c E h) (tL d E rs l[k]) d3 (vfile E) c E l[k]).d kp) (vfile E2))), ?_, by first | omega | (simp only []; omega), ?_, ?_⟩
           ·exact ⟨hkl, turn_yes n4 n5 h147⟩
           ·simp only [anys, upds, offs, List.set_cons_zero, List.set_cons_succ]; repeat (first | exact Wk.nil | refine Wk.same ?_ | refine Wk.any ?_)
           ·simp only [anys, upds, offs, List.set_cons_zero, List.set_cons_succ]; repeat (first | exact Sk.nil _ | refine Sk.same _ ?_ | refine Sk.scr _ (by decide) ?_ | refine Sk.eq _ (by first | rfl | exact box_rows | exact box_rows2) ?_)
          ·skip
           refine AW.skip ?_
           change AW _ _ _ _ _
           refine AW.region ?_
           refine AL.rm ?_
           refine AL.r (rd_arith_add rfl rfl rfl (by first | exact IntWalk.i64_in _ (by omega) | rfl)) ?_
           refine AL.ra ?_
           refine AL.nil ?_
           refine ⟨(k + 1, E, c2, h, rs ++ [l[k]], F3, (openD byteN (crashD (foldO byteN ⟨((vfile E : Nat) : Int), false⟩ (vS c E h) (tL d E rs l[k]) d3 (vfile E) c E l[k]).d kp) (vfile E2))), ?_, by first | omega | (simp only []; omega), ?_, ?_⟩
           ·exact ⟨hkl, turn_no n4 n5 h147⟩
           ·simp only [anys, upds, offs, List.set_cons_zero, List.set_cons_succ]; repeat (first | exact Wk.nil | refine Wk.same ?_ | refine Wk.any ?_)
           ·simp only [anys, upds, offs, List.set_cons_zero, List.set_cons_succ]; repeat (first | exact Sk.nil _ | refine Sk.same _ ?_ | refine Sk.scr _ (by decide) ?_ | refine Sk.eq _ (by first | rfl | exact box_rows | exact box_rows2) ?_)
   ·skip
    refine AW.exit ?_
    change AW _ _ _ _ _
    refine AW.seq ?_
    refine AW.region ?_
    refine AL.ra ?_
    refine AL.nil ?_
    change AW _ _ _ _ _
    refine AW.ret ?_
    change ResA _ _ _ _ _
    refine res1 rfl (ResV.tmp rfl) rfl ?_
    rfl
theorem walk_VaultTurns (w : World) (v0 : Value) (rs0 : List (List UInt8)) (rp0 : RepS AnyB w v0 (.sl (rowsA rs0))) (v1 : Value) (is1 : List Int) (wi1 : ∀ x ∈ is1, (Lit.int .i64 x).wf = true) (rp1 : RepS AnyB w v1 (.sl (intsA is1))) (v2 : Value) (is2 : List Int) (wi2 : ∀ x ∈ is2, (Lit.int .i64 x).wf = true) (rp2 : RepS AnyB w v2 (.sl (intsA is2))) :
    Calls Try.prog 13 #[v0, v1, v2] w fun e w' => e = .returned (.bool true) ∧ Below w.heap.size w w' :=
  (vturns_c rs0 is1 is2 (fun x hx => by have := bounds_i64 (wi1 x hx); omega) (fun x hx => by have := bounds_i64 (wi2 x hx); omega)).law (vs := [v0, v1, v2]) rfl (rep_cons rp0 (rep_cons rp1 (rep_cons rp2 rep_nil)))
end Go.Proofs.Ytgjpeldgjpgbcaa
