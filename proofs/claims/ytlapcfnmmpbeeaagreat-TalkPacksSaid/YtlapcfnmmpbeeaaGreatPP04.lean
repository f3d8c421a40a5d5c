/- Texts of the proof of talkPacks_holds, put together by a program: Sh Ty. -/
import Derived.Test.YtlapcfnmmpbeeaaGreatProg
import Derived.Test.YtlapcfnmmpbeeaaGreatPP03
set_option linter.unusedSimpArgs false
set_option linter.unusedVariables false
namespace Go.Proofs.YtlapcfnmmpbeeaaGreat
open Go.RowKit
section
variable {P : Program} {o : Oper} {t : List AV} {st : List TK} {Q : APost} {ops : Array Oper} {K : List AV → List TK → Prop} {l : List Oper} {fuel : Nat} {listed : Array Bool}
theorem AW.cd {c : Operand} {x y : Code} {b : Bool} {p q : Prop} (hc : evA t c = .sc (.bool b)) (ht : p → AW P x Q t st) (hf : q → AW P y Q t st) (hp : (b = true) = p := by (try simp only [decide_eq_true_eq, decide_eq_false_iff_not, beq_iff_eq, beq_eq_false_iff_ne, bne_iff_ne, bne_eq_false_iff_eq, Bool.not_eq_true', Bool.not_eq_false', ne_eq, Bool.not_eq_eq_eq_not, Bool.not_true, Bool.not_false, gt_iff_lt, ge_iff_le, Bool.not_not]); (try rfl)) (hq : (b = false) = q := by (try simp only [decide_eq_true_eq, decide_eq_false_iff_not, beq_iff_eq, beq_eq_false_iff_ne, bne_iff_ne, bne_eq_false_iff_eq, Bool.not_eq_true', Bool.not_eq_false', ne_eq, Bool.not_eq_eq_eq_not, Bool.not_true, Bool.not_false, gt_iff_lt, ge_iff_le, Bool.not_not]); (try rfl)) : AW P (.cond c x y) Q t st := AW.cond hc (fun h => ht (hp ▸ h)) (fun h => hf (hq ▸ h))
theorem AL.fk {d : Nat} {b : Bool} {p q : Prop} (hb : evA t (.tmp d) = .sc (.bool b)) (ht : p → AL P ops K l (t.set d (.sc (.bool true))) st) (hf : q → AL P ops K l (t.set d (.sc (.bool false))) st) (hp : (b = true) = p := by (try simp only [decide_eq_true_eq, decide_eq_false_iff_not, beq_iff_eq, beq_eq_false_iff_ne, bne_iff_ne, bne_eq_false_iff_eq, Bool.not_eq_true', Bool.not_eq_false', ne_eq, Bool.not_eq_eq_eq_not, Bool.not_true, Bool.not_false, gt_iff_lt, ge_iff_le, Bool.not_not]); (try rfl)) (hq : (b = false) = q := by (try simp only [decide_eq_true_eq, decide_eq_false_iff_not, beq_iff_eq, beq_eq_false_iff_ne, bne_iff_ne, bne_eq_false_iff_eq, Bool.not_eq_true', Bool.not_eq_false', ne_eq, Bool.not_eq_eq_eq_not, Bool.not_true, Bool.not_false, gt_iff_lt, ge_iff_le, Bool.not_not]); (try rfl)) : AL P ops K l t st := AL.fork hb (fun h => ht (hp ▸ h)) (fun h => hf (hq ▸ h))
theorem AD.fk {d : Nat} {b : Bool} {p q : Prop} (hb : evA t (.tmp d) = .sc (.bool b)) (ht : p → AD P l K fuel listed (t.set d (.sc (.bool true))) st) (hf : q → AD P l K fuel listed (t.set d (.sc (.bool false))) st) (hp : (b = true) = p := by (try simp only [decide_eq_true_eq, decide_eq_false_iff_not, beq_iff_eq, beq_eq_false_iff_ne, bne_iff_ne, bne_eq_false_iff_eq, Bool.not_eq_true', Bool.not_eq_false', ne_eq, Bool.not_eq_eq_eq_not, Bool.not_true, Bool.not_false, gt_iff_lt, ge_iff_le, Bool.not_not]); (try rfl)) (hq : (b = false) = q := by (try simp only [decide_eq_true_eq, decide_eq_false_iff_not, beq_iff_eq, beq_eq_false_iff_ne, bne_iff_ne, bne_eq_false_iff_eq, Bool.not_eq_true', Bool.not_eq_false', ne_eq, Bool.not_eq_eq_eq_not, Bool.not_true, Bool.not_false, gt_iff_lt, ge_iff_le, Bool.not_not]); (try rfl)) : AD P l K fuel listed t st := AD.fork hb (fun h => ht (hp ▸ h)) (fun h => hf (hq ▸ h))
theorem ADB.fk {d : Nat} {b : Bool} {p q : Prop} (hb : evA t (.tmp d) = .sc (.bool b)) (ht : p → ADB P l K fuel listed (t.set d (.sc (.bool true))) st) (hf : q → ADB P l K fuel listed (t.set d (.sc (.bool false))) st) (hp : (b = true) = p := by (try simp only [decide_eq_true_eq, decide_eq_false_iff_not, beq_iff_eq, beq_eq_false_iff_ne, bne_iff_ne, bne_eq_false_iff_eq, Bool.not_eq_true', Bool.not_eq_false', ne_eq, Bool.not_eq_eq_eq_not, Bool.not_true, Bool.not_false, gt_iff_lt, ge_iff_le, Bool.not_not]); (try rfl)) (hq : (b = false) = q := by (try simp only [decide_eq_true_eq, decide_eq_false_iff_not, beq_iff_eq, beq_eq_false_iff_ne, bne_iff_ne, bne_eq_false_iff_eq, Bool.not_eq_true', Bool.not_eq_false', ne_eq, Bool.not_eq_eq_eq_not, Bool.not_true, Bool.not_false, gt_iff_lt, ge_iff_le, Bool.not_not]); (try rfl)) : ADB P l K fuel listed t st := ADB.fork hb (fun h => ht (hp ▸ h)) (fun h => hf (hq ▸ h))
theorem ADB.mv (i : Nat) (hi : l[i]? = some o) (h : AOp P o t st fun x st' => ADB P l K fuel (listed.setIfInBounds i true) (putA t o.dst x) st') (hr : Region.ready .any l.toArray listed = [i] := by kernel_rfl) (hw : WantA l.toArray o t true := by first | rfl | exact ⟨_, _, rfl, rfl, rfl⟩) : ADB P l K (fuel + 1) listed t st := ADB.move i hi hr hw h
theorem AL.rm {x : Operand} {t' : List AV} (hk : AL P ops K l t' st) (ho : o.op = .move x := by rfl) (ht : putA t o.dst (evA t x) = t' := by (try simp only [putA, evA, List.getD_cons_zero, List.getD_cons_succ, List.set_cons_zero, List.set_cons_succ, List.length_map, KR, splA, List.map_cons, List.map_nil, List.length_append, List.length_cons, List.length_nil, List.drop_zero, csS_len, csS_take, csS_drop, csS_app, byA_len, byA_take, byA_drop, byA_app, ← List.map_take, ← List.map_drop, ← List.map_append]); (try rfl)) (hg : o.guard = none := by rfl) : AL P ops K (o :: l) t st := AL.r (rd_move ho rfl) hk ht hg
theorem AL.ra {x : Operand} {t' : List AV} (hk : AL P ops K l t' st) (ho : o.op = .assign x := by rfl) (ht : putA t o.dst (evA t x) = t' := by (try simp only [putA, evA, List.getD_cons_zero, List.getD_cons_succ, List.set_cons_zero, List.set_cons_succ, List.length_map, KR, splA, List.map_cons, List.map_nil, List.length_append, List.length_cons, List.length_nil, List.drop_zero, csS_len, csS_take, csS_drop, csS_app, byA_len, byA_take, byA_drop, byA_app, ← List.map_take, ← List.map_drop, ← List.map_append]); (try rfl)) (hg : o.guard = none := by rfl) : AL P ops K (o :: l) t st := AL.r (rd_assign ho rfl) hk ht hg
theorem rd_iaddr_bx_ {T n e sz k g off bt : Nat} {ik : IntKind} {I : Int} {cs : List AV} {x y : Operand} (i : Nat) (ho : o.op = .indexAddr T x y) (hT : arT P T = some (n, e, sz)) (hx : evA t x = .bx k g off) (hk : st[k]? = some ⟨g, .box bt cs⟩) (hy : evV t y = some (.int ik I)) (hI : I = (i : Int) := by first | rfl | omega) (hi : i < n := by decide) : ARd P o t st (.bx k g (off + i * sz)) := rd_iaddr_bx ho hT hx hk hy hI hi
section
variable {KK : AV → List TK → Prop} {ty bt : TypeId} {k g off : Nat} {cs zs : List AV} {z : AV} {x y : Operand} (ho : o.op = .store ty x y) (hx : evA t x = .bx k g off) (hk : st[k]? = some ⟨g, .box bt cs⟩) (hy : evA t y = z) (hz : z.cells? = some zs) (hT : szT P ty = some zs.length) (h : KK (.sc undef) (st.set k ⟨g, .box bt (splA cs off zs)⟩))
include ho hx hk hy hz hT h
theorem op_store_ (hle : off + zs.length ≤ cs.length := by exact Nat.le_of_ble_eq_true rfl) (hl : liveA st z = true := by rfl) : AOp P o t st KK := op_store ho hx hk hy hz hl hT hle h
theorem op_storo (hle : off + zs.length ≤ cs.length := by exact Nat.le_of_ble_eq_true rfl) (hl : liveA st z = true := by first | exact live_owM rfl | exact live_own rfl | exact live_nown rfl | rfl) : AOp P o t st KK := op_store ho hx hk hy hz hl hT hle h
end
theorem AC.of' {f : FuncId} {fn : Func} {c : Code} {args t0 : List AV} {R : RS → Prop} (m nt : Nat) (hf : P.funcs[f]? = some fn) (hb : fn.body = some c) (h : AW P c (retP P fn R) t0 (List.replicate nt (TK.mk 0 .off))) (hm : fn.ntmps - args.length = m := by rfl) (ht : args ++ List.replicate m (AV.sc undef) = t0 := by simp only [List.replicate, List.cons_append, List.nil_append]; rfl) : AC P f args R := AC.of nt hf hb (by rw [hm]; exact ht) h
theorem ACo.of' {f : FuncId} {fn : Func} {c : Code} {args t0 : List AV} {os st0 : List TK} {R : AV → List TK → Prop} (m nt : Nat) (hf : P.funcs[f]? = some fn) (hb : fn.body = some c) (n : Nat) (h : AW P c (retO P fn n R) t0 st0) (hm : fn.ntmps - args.length = m := by rfl) (ht : args ++ List.replicate m (AV.sc undef) = t0 := by simp only [List.replicate, List.cons_append, List.nil_append]; rfl) (hst : os ++ List.replicate nt (TK.mk 0 .off) = st0 := by rfl) (hn : os.length = n := by rfl) : ACo P f args os R := ACo.of nt hf hb (by rw [hm]; exact ht) hst n hn h
theorem src_s {x : Operand} {sz : Nat} {ys : List (List AV)} (hx : evA t x = .sl ys) (hl : ∀ cs ∈ ys, cs.length = sz := by first | exact csS_one | exact byA_one | (intro cs hcs; obtain rfl := List.mem_singleton.1 hcs; rfl) | (intro cs hcs; obtain ⟨_, _, rfl⟩ := List.mem_map.1 hcs; rfl) | simp) : Src t st x sz ys := src_sl hx hl
end
section
variable {P : Program} {o : Oper} {t : List AV} {st : List TK} {ops : Array Oper} {l : List Oper} {fuel : Nat} {listed : Array Bool}
end
section
variable {P : Program} {o : Oper} {t : List AV} {st : List TK} {Q : APost} {c : Code} {x y cc : Operand} {z : AV} {zs : List AV} {kx : Nat} {fn : Func} {R : RS → Prop}
theorem qa {s f off k g off0 : Nat} {tc : TC} (hT : fOff P s f = some off) (ho : o.op = .fieldAddr s x f := by rfl) (hx : evA t x = .bx k g off0 := by rfl) (hk : st[k]? = some ⟨g, tc⟩ := by rfl) (hb : ∃ ty cs, tc = .box ty cs := by exact ⟨_, _, rfl⟩) : ARd P o t st (.bx k g (off0 + off)) := rd_faddr_bx ho hT hx hk hb
theorem xa {s f off k g off0 : Nat} {tc : TC} (hT : fOff P s f = some off) (ho : o.op = .fieldAddr s x f := by rfl) (hx : evA t x = .bx k g off0 := by rfl) (hk : st[k]? = some ⟨g, tc⟩ := by rfl) (hb : ∃ ty cs, tc = .box ty cs := by exact ⟨_, _, rfl⟩) : ARdX kx P o t st (.bx k g (off0 + off)) := rdX_faddr_bx ho hT hx hk hb
theorem ql {ty bt : TypeId} {k g off : Nat} {cs : List AV} (hT : agN P ty = some none) (ho : o.op = .load ty x := by rfl) (hx : evA t x = .bx k g off := by rfl) (hk : st[k]? = some ⟨g, .box bt cs⟩ := by rfl) (hc : cs[off]? = some z := by rfl) : ARd P o t st z := rd_load_bx ho hT hx hk hc
theorem qN {ty bt : TypeId} {k g off n : Nat} {cs : List AV} (hT : agN P ty = some (some n)) (ho : o.op = .load ty x := by rfl) (hx : evA t x = .bx k g off := by rfl) (hk : st[k]? = some ⟨g, .box bt cs⟩ := by rfl) (hc : off + n ≤ cs.length := by exact Nat.le_of_ble_eq_true rfl) (hz : (cs.drop off).take n = zs := by rfl) : ARd P o t st (.ag zs) := rd_loadN_bx ho hT hx hk hc hz
theorem qf (ho : o.op = .pick cc x y := by rfl) (hc : evV t cc = some (.bool false) := by rfl) (hx : evA t y = z := by rfl) : ARd P o t st z := rd_pick_f ho hc hx
theorem qt (ho : o.op = .pick cc x y := by rfl) (hc : evV t cc = some (.bool true) := by rfl) (hx : evA t x = z := by rfl) : ARd P o t st z := rd_pick_t ho hc hx
theorem qb {op : BinOp} {xt yt : TypeId} {vx vy v : Value} (ho : o.op = .binOp op xt x y yt := by rfl) (hx : evV t x = some vx := by rfl) (hy : evV t y = some vy := by rfl) (hr : ∀ w, (eqGuard op xt x y vx vy >>= fun _ => binOp op xt vx vy).run P w = .ok v w := by exact fun _ => rfl) : ARd P o t st (.sc v) := rd_bin ho hx hy hr
theorem r1t {k : Nat} {w : AV} (h : R (.s z)) (hr : fn.results = #[.tmp k] := by rfl) (h1 : evA t (.tmp k) = w := by rfl) (hz : setA st w = some z := by rfl) : ResA P fn R t st := res1 hr (ResV.tmp h1) hz h
theorem wk {a b : List AV} (h : Wk a b := by simp only [anys, upds, offs, List.set_cons_zero, List.set_cons_succ]; repeat (first | exact Wk.nil | refine Wk.same ?_ | refine Wk.any ?_)) : Wk a b := h
theorem sk {l : List Nat} {n : Nat} {a b : List TK} (h : Sk l n a b := by simp only [anys, upds, offs, List.set_cons_zero, List.set_cons_succ]; repeat (first | exact Sk.nil _ | refine Sk.same _ ?_ | refine Sk.scr _ (by decide) ?_)) : Sk l n a b := h
theorem AW.nm {t' : List AV} {st' : List TK} (h : AW P c Q t' st') (ht : t = t' := by simp only [anys, upds, offs, List.set_cons_zero, List.set_cons_succ]; rfl) (hs : st = st' := by (try simp only [anys, upds, offs, List.set_cons_zero, List.set_cons_succ]); (try rfl)) : AW P c Q t st := AW.norm ht hs h
end
theorem ag_2 : agN Tryz.prog 2 = some none := by kernel_rfl
theorem sz_2 : szT Tryz.prog 2 = some 1 := by kernel_rfl
theorem ag_3 : agN Tryz.prog 3 = some none := by kernel_rfl
theorem ik_3 : intK Tryz.prog 3 = some .i64 := by kernel_rfl
theorem sz_3 : szT Tryz.prog 3 = some 1 := by kernel_rfl
theorem iss_3 : (Tryz.prog.underlying 3).isSome = true := by kernel_rfl
theorem ag_4 : agN Tryz.prog 4 = some none := by kernel_rfl
theorem bo_4 : isBo Tryz.prog 4 = true := by kernel_rfl
theorem sz_4 : szT Tryz.prog 4 = some 1 := by kernel_rfl
theorem ag_5 : agN Tryz.prog 5 = some none := by kernel_rfl
theorem ik_5 : intK Tryz.prog 5 = some .u8 := by kernel_rfl
theorem ze_5 : zeroC Tryz.prog 5 = some [.int .u8 0] := by kernel_rfl
theorem iss_5 : (Tryz.prog.underlying 5).isSome = true := by kernel_rfl
theorem ag_9 : agN Tryz.prog 9 = some none := by kernel_rfl
theorem str_9 : isStr Tryz.prog 9 = true := by kernel_rfl
theorem sz_9 : szT Tryz.prog 9 = some 1 := by kernel_rfl
theorem ze_9 : zeroC Tryz.prog 9 = some [sv []] := by kernel_rfl
theorem ag_23 : agN Tryz.prog 23 = some (some 6) := by kernel_rfl
theorem ar_23 : arT Tryz.prog 23 = some (6, 3, 1) := by kernel_rfl
theorem sz_23 : szT Tryz.prog 23 = some 6 := by kernel_rfl
theorem ze_23 : zeroC Tryz.prog 23 = some [.int .i64 0, .int .i64 0, .int .i64 0, .int .i64 0, .int .i64 0, .int .i64 0] := by kernel_rfl
theorem ag_24 : agN Tryz.prog 24 = some none := by kernel_rfl
theorem el_24 : elT Tryz.prog 24 = some (34, 2) := by kernel_rfl
theorem ap_24 : apI Tryz.prog 24 = some (34, 2, 16) := by kernel_rfl
theorem sz_24 : szT Tryz.prog 24 = some 1 := by kernel_rfl
theorem ag_25 : agN Tryz.prog 25 = some none := by kernel_rfl
theorem el_25 : elT Tryz.prog 25 = some (44, 20) := by kernel_rfl
theorem ap_25 : apI Tryz.prog 25 = some (44, 20, 264) := by kernel_rfl
theorem sz_25 : szT Tryz.prog 25 = some 1 := by kernel_rfl
theorem ag_26 : agN Tryz.prog 26 = some none := by kernel_rfl
theorem el_26 : elT Tryz.prog 26 = some (48, 15) := by kernel_rfl
theorem ap_26 : apI Tryz.prog 26 = some (48, 15, 176) := by kernel_rfl
theorem sz_26 : szT Tryz.prog 26 = some 1 := by kernel_rfl
theorem fo_28_0 : fOff Tryz.prog 28 0 = some 0 := by kernel_rfl
theorem fo_28_1 : fOff Tryz.prog 28 1 = some 1 := by kernel_rfl
theorem fo_28_2 : fOff Tryz.prog 28 2 = some 2 := by kernel_rfl
theorem fo_28_3 : fOff Tryz.prog 28 3 = some 3 := by kernel_rfl
theorem fo_28_4 : fOff Tryz.prog 28 4 = some 9 := by kernel_rfl
theorem fo_28_5 : fOff Tryz.prog 28 5 = some 10 := by kernel_rfl
theorem fo_28_6 : fOff Tryz.prog 28 6 = some 11 := by kernel_rfl
theorem ag_28 : agN Tryz.prog 28 = some (some 12) := by kernel_rfl
theorem pl_28 : plI Tryz.prog 28 = some [(0, 1), (1, 1), (2, 1), (3, 6), (9, 1), (10, 1), (11, 1)] := by kernel_rfl
theorem sz_28 : szT Tryz.prog 28 = some 12 := by kernel_rfl
theorem ze_28 : zeroC Tryz.prog 28 = some [.int .i64 0, .int .i64 0, .int .i64 0, .int .i64 0, .int .i64 0, .int .i64 0, .int .i64 0, .int .i64 0, .int .i64 0, .slice none 0 0, .slice none 0 0, .slice none 0 0] := by kernel_rfl
theorem fo_34_0 : fOff Tryz.prog 34 0 = some 0 := by kernel_rfl
theorem fo_34_1 : fOff Tryz.prog 34 1 = some 1 := by kernel_rfl
theorem ag_34 : agN Tryz.prog 34 = some (some 2) := by kernel_rfl
theorem pl_34 : plI Tryz.prog 34 = some [(0, 1), (1, 1)] := by kernel_rfl
theorem sz_34 : szT Tryz.prog 34 = some 2 := by kernel_rfl
theorem ze_34 : zeroC Tryz.prog 34 = some [.int .i64 0, .int .i64 0] := by kernel_rfl
theorem fo_36_0 : fOff Tryz.prog 36 0 = some 0 := by kernel_rfl
theorem fo_36_1 : fOff Tryz.prog 36 1 = some 1 := by kernel_rfl
theorem fo_36_2 : fOff Tryz.prog 36 2 = some 2 := by kernel_rfl
theorem ag_36 : agN Tryz.prog 36 = some (some 3) := by kernel_rfl
theorem pl_36 : plI Tryz.prog 36 = some [(0, 1), (1, 1), (2, 1)] := by kernel_rfl
theorem sz_36 : szT Tryz.prog 36 = some 3 := by kernel_rfl
theorem ze_36 : zeroC Tryz.prog 36 = some [.int .i64 0, sv [], sv []] := by kernel_rfl
theorem ag_37 : agN Tryz.prog 37 = some none := by kernel_rfl
theorem el_37 : elT Tryz.prog 37 = some (9, 1) := by kernel_rfl
theorem ap_37 : apI Tryz.prog 37 = some (9, 1, 16) := by kernel_rfl
theorem sz_37 : szT Tryz.prog 37 = some 1 := by kernel_rfl
theorem fo_39_0 : fOff Tryz.prog 39 0 = some 0 := by kernel_rfl
theorem fo_39_1 : fOff Tryz.prog 39 1 = some 3 := by kernel_rfl
theorem fo_39_2 : fOff Tryz.prog 39 2 = some 4 := by kernel_rfl
theorem fo_39_3 : fOff Tryz.prog 39 3 = some 5 := by kernel_rfl
theorem fo_39_4 : fOff Tryz.prog 39 4 = some 6 := by kernel_rfl
theorem ag_39 : agN Tryz.prog 39 = some (some 7) := by kernel_rfl
theorem pl_39 : plI Tryz.prog 39 = some [(0, 3), (3, 1), (4, 1), (5, 1), (6, 1)] := by kernel_rfl
theorem sz_39 : szT Tryz.prog 39 = some 7 := by kernel_rfl
theorem ze_39 : zeroC Tryz.prog 39 = some [.int .i64 0, sv [], sv [], .int .i64 0, sv [], .slice none 0 0, .int .i64 0] := by kernel_rfl
theorem ag_40 : agN Tryz.prog 40 = some none := by kernel_rfl
theorem el_40 : elT Tryz.prog 40 = some (46, 2) := by kernel_rfl
theorem ap_40 : apI Tryz.prog 40 = some (46, 2, 32) := by kernel_rfl
theorem sz_40 : szT Tryz.prog 40 = some 1 := by kernel_rfl
theorem fo_42_0 : fOff Tryz.prog 42 0 = some 0 := by kernel_rfl
theorem fo_42_1 : fOff Tryz.prog 42 1 = some 1 := by kernel_rfl
theorem fo_42_2 : fOff Tryz.prog 42 2 = some 4 := by kernel_rfl
theorem fo_42_3 : fOff Tryz.prog 42 3 = some 5 := by kernel_rfl
theorem fo_42_4 : fOff Tryz.prog 42 4 = some 6 := by kernel_rfl
theorem fo_42_5 : fOff Tryz.prog 42 5 = some 7 := by kernel_rfl
theorem fo_42_6 : fOff Tryz.prog 42 6 = some 14 := by kernel_rfl
theorem fo_42_7 : fOff Tryz.prog 42 7 = some 15 := by kernel_rfl
theorem ag_42 : agN Tryz.prog 42 = some (some 16) := by kernel_rfl
theorem pl_42 : plI Tryz.prog 42 = some [(0, 1), (1, 3), (4, 1), (5, 1), (6, 1), (7, 7), (14, 1), (15, 1)] := by kernel_rfl
theorem sz_42 : szT Tryz.prog 42 = some 16 := by kernel_rfl
theorem ze_42 : zeroC Tryz.prog 42 = some [.int .i64 0, .int .i64 0, sv [], sv [], sv [], sv [], .int .i64 0, .int .i64 0, sv [], sv [], .int .i64 0, sv [], .slice none 0 0, .int .i64 0, .slice none 0 0, .slice none 0 0] := by kernel_rfl
theorem fo_44_0 : fOff Tryz.prog 44 0 = some 0 := by kernel_rfl
theorem fo_44_1 : fOff Tryz.prog 44 1 = some 2 := by kernel_rfl
theorem fo_44_2 : fOff Tryz.prog 44 2 = some 4 := by kernel_rfl
theorem ag_44 : agN Tryz.prog 44 = some (some 20) := by kernel_rfl
theorem pl_44 : plI Tryz.prog 44 = some [(0, 2), (2, 2), (4, 16)] := by kernel_rfl
theorem sz_44 : szT Tryz.prog 44 = some 20 := by kernel_rfl
theorem ze_44 : zeroC Tryz.prog 44 = some [.int .i64 0, .int .i64 0, .int .i64 0, .int .i64 0, .int .i64 0, .int .i64 0, sv [], sv [], sv [], sv [], .int .i64 0, .int .i64 0, sv [], sv [], .int .i64 0, sv [], .slice none 0 0, .int .i64 0, .slice none 0 0, .slice none 0 0] := by kernel_rfl
theorem fo_46_0 : fOff Tryz.prog 46 0 = some 0 := by kernel_rfl
theorem fo_46_1 : fOff Tryz.prog 46 1 = some 1 := by kernel_rfl
theorem ag_46 : agN Tryz.prog 46 = some (some 2) := by kernel_rfl
theorem pl_46 : plI Tryz.prog 46 = some [(0, 1), (1, 1)] := by kernel_rfl
theorem sz_46 : szT Tryz.prog 46 = some 2 := by kernel_rfl
theorem ze_46 : zeroC Tryz.prog 46 = some [sv [], sv []] := by kernel_rfl
theorem fo_48_0 : fOff Tryz.prog 48 0 = some 0 := by kernel_rfl
theorem fo_48_1 : fOff Tryz.prog 48 1 = some 2 := by kernel_rfl
theorem fo_48_2 : fOff Tryz.prog 48 2 = some 4 := by kernel_rfl
theorem fo_48_3 : fOff Tryz.prog 48 3 = some 5 := by kernel_rfl
theorem fo_48_4 : fOff Tryz.prog 48 4 = some 6 := by kernel_rfl
theorem fo_48_5 : fOff Tryz.prog 48 5 = some 7 := by kernel_rfl
theorem fo_48_6 : fOff Tryz.prog 48 6 = some 8 := by kernel_rfl
theorem fo_48_7 : fOff Tryz.prog 48 7 = some 11 := by kernel_rfl
theorem fo_48_8 : fOff Tryz.prog 48 8 = some 12 := by kernel_rfl
theorem fo_48_9 : fOff Tryz.prog 48 9 = some 13 := by kernel_rfl
theorem fo_48_10 : fOff Tryz.prog 48 10 = some 14 := by kernel_rfl
theorem ag_48 : agN Tryz.prog 48 = some (some 15) := by kernel_rfl
theorem pl_48 : plI Tryz.prog 48 = some [(0, 2), (2, 2), (4, 1), (5, 1), (6, 1), (7, 1), (8, 3), (11, 1), (12, 1), (13, 1), (14, 1)] := by kernel_rfl
theorem sz_48 : szT Tryz.prog 48 = some 15 := by kernel_rfl
theorem ze_48 : zeroC Tryz.prog 48 = some [.int .i64 0, .int .i64 0, .int .i64 0, .int .i64 0, .int .i64 0, sv [], .int .i64 0, sv [], .int .i64 0, sv [], sv [], .int .i64 0, .bool false, sv [], .slice none 0 0] := by kernel_rfl
theorem ag_49 : agN Tryz.prog 49 = some none := by kernel_rfl
theorem ik_49 : intK Tryz.prog 49 = some .u32 := by kernel_rfl
theorem sz_49 : szT Tryz.prog 49 = some 1 := by kernel_rfl
theorem iss_49 : (Tryz.prog.underlying 49).isSome = true := by kernel_rfl
theorem ag_51 : agN Tryz.prog 51 = some (some 256) := by kernel_rfl
theorem ar_51 : arT Tryz.prog 51 = some (256, 49, 1) := by kernel_rfl
theorem ag_52 : agN Tryz.prog 52 = some none := by kernel_rfl
theorem el_52 : elT Tryz.prog 52 = some (5, 1) := by kernel_rfl
theorem ap_52 : apI Tryz.prog 52 = some (5, 1, 1) := by kernel_rfl
theorem pt_95 : isPt Tryz.prog 95 = true := by kernel_rfl
theorem fo_133_0 : fOff Tryz.prog 133 0 = some 0 := by kernel_rfl
theorem fo_133_1 : fOff Tryz.prog 133 1 = some 1 := by kernel_rfl
theorem fo_133_2 : fOff Tryz.prog 133 2 = some 2 := by kernel_rfl
theorem fo_133_3 : fOff Tryz.prog 133 3 = some 3 := by kernel_rfl
theorem fo_133_4 : fOff Tryz.prog 133 4 = some 4 := by kernel_rfl
theorem fo_133_5 : fOff Tryz.prog 133 5 = some 6 := by kernel_rfl
theorem fo_133_6 : fOff Tryz.prog 133 6 = some 12 := by kernel_rfl
theorem pl_133 : plI Tryz.prog 133 = some [(0, 1), (1, 1), (2, 1), (3, 1), (4, 2), (6, 6), (12, 3), (15, 1)] := by kernel_rfl
theorem ze_133 : zeroC Tryz.prog 133 = some [.int .i64 0, .int .i64 0, sv [], .bool false, .int .i64 0, .int .i64 0, .int .i64 0, .int .i64 0, .int .i64 0, .int .i64 0, .int .i64 0, .int .i64 0, .int .i64 0, sv [], sv [], .int .i64 0] := by kernel_rfl
theorem fo_138_0 : fOff Tryz.prog 138 0 = some 0 := by kernel_rfl
theorem fo_138_1 : fOff Tryz.prog 138 1 = some 1 := by kernel_rfl
theorem fo_138_2 : fOff Tryz.prog 138 2 = some 2 := by kernel_rfl
theorem fo_138_3 : fOff Tryz.prog 138 3 = some 3 := by kernel_rfl
theorem pl_138 : plI Tryz.prog 138 = some [(0, 1), (1, 1), (2, 1), (3, 1)] := by kernel_rfl
theorem ze_138 : zeroC Tryz.prog 138 = some [.slice none 0 0, .int .i64 0, .int .i64 0, .bool false] := by kernel_rfl
end Go.Proofs.YtlapcfnmmpbeeaaGreat
