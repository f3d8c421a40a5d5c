/- Slots as tickets: Open, frame, write, Put, walked over abstract states. -/
import Derived.Test.YtgjpeldgjpgbcaaSltA
import Derived.Test.YtgjpeldgjpgbcaaLogK
namespace Go.Proofs.Ytgjpeldgjpgbcaa
set_option linter.unusedSimpArgs false
set_option linter.unusedVariables false
set_option maxRecDepth 100000
open Go.RowKit

structure SltD where
  file : Int
  counts : Int
  epoch : Int
  bytes : List UInt8
  down : Bool
def SltT (g G : Nat) (t : Nat → Nat) (S : SltD) (d : DiskD) : List TK := [⟨g, .box 119 (fatC [.bx 1 G 0] t [.sc (.int .i64 S.file), .sc (.int .i64 S.counts), .sc (.int .i64 S.epoch), .sl (byA S.bytes), .sc (.bool S.down)])⟩, ⟨G, .obj (DiskP d)⟩]
section
variable {P : Program} {o : Oper} {t : List AV} {st : List TK} {ops : Array Oper} {l : List Oper} {fuel : Nat} {listed : Array Bool}
theorem calloZ {xs : Array Operand} {Ts : Array TypeId} {K : AV → List TK → Prop} {f : FuncId} {ys : List AV} {os : List TK} {R : AV → List TK → Prop} (hC : ACo P f ys os R) (ks : List Nat) (h : ∀ y os', R y os' → K (ren2 ks y) (putT ks st ks os')) (ho : o.op = .call { callee := .value (.func f), args := xs, argTypes := Ts } := by rfl) (hok : callOk P f = true := by kernel_rfl) (hnd : ks.Nodup := by decide) (hsub : subT st ks (os.map (renT ks)) := by simp only [SltT, fat_ren, fat_all, List.map_cons, List.map_nil, renT, renC_owM, renC_box, renC_own, renC_nown, renC_obj, renC_off, ren0, List.getD_cons_zero, List.getD_cons_succ]; repeat (first | exact trivial | refine ⟨rfl, ?_⟩)) (hargs : xs.toList.map (fun x => nzA (evA t x)) = ys.map (ren1 ks) := by rfl) (hoa : ys.all (ok1 os) = true := by simp only [SltT, fat_ren, fat_all, cleanS, cle_owM, cle_own, cle_nown, cle_obj, cle_off, cle_box, okC, liveA, List.take_succ_cons, List.take_zero, List.all_cons, List.all_nil, List.getElem?_cons_zero, List.getElem?_cons_succ, isO_owM, isO_own, isO_nown, TC.isB, beq_self_eq_true, Bool.and_self, Bool.and_true, ok1, ok2, List.map_cons, List.map_nil]) (hcl : cleanS os = true := by simp only [SltT, fat_ren, fat_all, cleanS, cle_owM, cle_own, cle_nown, cle_obj, cle_off, cle_box, okC, liveA, List.take_succ_cons, List.take_zero, List.all_cons, List.all_nil, List.getElem?_cons_zero, List.getElem?_cons_succ, isO_owM, isO_own, isO_nown, TC.isB, beq_self_eq_true, Bool.and_self, Bool.and_true, ok1, ok2, List.map_cons, List.map_nil]) : AOp P o t st K := op_callo hC ho hok ks hnd hsub hargs hoa hcl h
theorem centrZ {K : AV → List TK → Prop} {f : FuncId} {us ys : List AV} {os : List TK} {R : AV → List TK → Prop} (hC : ACo P f ys os R) (hE : Ent P o t st f us) (ks : List Nat) (h : ∀ y os', R y os' → K (ren2 ks y) (putT ks st ks os')) (hnd : ks.Nodup := by decide) (hsub : subT st ks (os.map (renT ks)) := by simp only [SltT, fat_ren, fat_all, List.map_cons, List.map_nil, renT, renC_owM, renC_box, renC_own, renC_nown, renC_obj, renC_off, ren0, List.getD_cons_zero, List.getD_cons_succ]; repeat (first | exact trivial | refine ⟨rfl, ?_⟩)) (hargs : us.map nzA = ys.map (ren1 ks) := by rfl) (hoa : ys.all (ok1 os) = true := by simp only [SltT, fat_ren, fat_all, cleanS, cle_owM, cle_own, cle_nown, cle_obj, cle_off, cle_box, okC, liveA, List.take_succ_cons, List.take_zero, List.all_cons, List.all_nil, List.getElem?_cons_zero, List.getElem?_cons_succ, isO_owM, isO_own, isO_nown, TC.isB, beq_self_eq_true, Bool.and_self, Bool.and_true, ok1, ok2, List.map_cons, List.map_nil]) (hcl : cleanS os = true := by simp only [SltT, fat_ren, fat_all, cleanS, cle_owM, cle_own, cle_nown, cle_obj, cle_off, cle_box, okC, liveA, List.take_succ_cons, List.take_zero, List.all_cons, List.all_nil, List.getElem?_cons_zero, List.getElem?_cons_succ, isO_owM, isO_own, isO_nown, TC.isB, beq_self_eq_true, Bool.and_self, Bool.and_true, ok1, ok2, List.map_cons, List.map_nil]) : AOp P o t st K := op_enter hC hE ks hnd hsub hargs hoa hcl h
theorem AL.noZ {K : List AV → List TK → Prop} {t' : List AV} {st' : List TK} (h : AL P ops K l t' st') (ht : t = t' := by (try simp only [SltT, fat_ren, fat_all, putA, evA, List.getD_cons_zero, List.getD_cons_succ, List.set_cons_zero, List.set_cons_succ, List.length_map, KR, splA, List.map_cons, List.map_nil, List.length_append, List.length_cons, List.length_nil, List.drop_zero, csS_len, csS_take, csS_drop, csS_app, byA_len, byA_take, byA_drop, byA_app, ← List.map_take, ← List.map_drop, ← List.map_append, List.take_succ_cons, List.take_zero, List.drop_succ_cons, List.cons_append, List.nil_append, Nat.zero_add, Nat.reduceAdd, Nat.reduceMul, Nat.add_zero, Nat.mul_one, putT, renT, renC_owM, renC_box, renC_own, renC_nown, renC_obj, renC_off, ren2, ren1, ren0, ok1, ok2]); (try rfl)) (hs : st = st' := by (try simp only [SltT, fat_ren, fat_all, putA, evA, List.getD_cons_zero, List.getD_cons_succ, List.set_cons_zero, List.set_cons_succ, List.length_map, KR, splA, List.map_cons, List.map_nil, List.length_append, List.length_cons, List.length_nil, List.drop_zero, csS_len, csS_take, csS_drop, csS_app, byA_len, byA_take, byA_drop, byA_app, ← List.map_take, ← List.map_drop, ← List.map_append, List.take_succ_cons, List.take_zero, List.drop_succ_cons, List.cons_append, List.nil_append, Nat.zero_add, Nat.reduceAdd, Nat.reduceMul, Nat.add_zero, Nat.mul_one, putT, renT, renC_owM, renC_box, renC_own, renC_nown, renC_obj, renC_off, ren2, ren1, ren0, ok1, ok2]); (try rfl)) : AL P ops K l t st := by subst ht hs; exact h
theorem ADB.noZ {K : List AV → List TK → Prop} {t' : List AV} {st' : List TK} (h : ADB P l K fuel listed t' st') (ht : t = t' := by (try simp only [SltT, fat_ren, fat_all, putA, evA, List.getD_cons_zero, List.getD_cons_succ, List.set_cons_zero, List.set_cons_succ, List.length_map, KR, splA, List.map_cons, List.map_nil, List.length_append, List.length_cons, List.length_nil, List.drop_zero, csS_len, csS_take, csS_drop, csS_app, byA_len, byA_take, byA_drop, byA_app, ← List.map_take, ← List.map_drop, ← List.map_append, List.take_succ_cons, List.take_zero, List.drop_succ_cons, List.cons_append, List.nil_append, Nat.zero_add, Nat.reduceAdd, Nat.reduceMul, Nat.add_zero, Nat.mul_one, putT, renT, renC_owM, renC_box, renC_own, renC_nown, renC_obj, renC_off, ren2, ren1, ren0, ok1, ok2]); (try rfl)) (hs : st = st' := by (try simp only [SltT, fat_ren, fat_all, putA, evA, List.getD_cons_zero, List.getD_cons_succ, List.set_cons_zero, List.set_cons_succ, List.length_map, KR, splA, List.map_cons, List.map_nil, List.length_append, List.length_cons, List.length_nil, List.drop_zero, csS_len, csS_take, csS_drop, csS_app, byA_len, byA_take, byA_drop, byA_app, ← List.map_take, ← List.map_drop, ← List.map_append, List.take_succ_cons, List.take_zero, List.drop_succ_cons, List.cons_append, List.nil_append, Nat.zero_add, Nat.reduceAdd, Nat.reduceMul, Nat.add_zero, Nat.mul_one, putT, renT, renC_owM, renC_box, renC_own, renC_nown, renC_obj, renC_off, ren2, ren1, ren0, ok1, ok2]); (try rfl)) : ADB P l K fuel listed t st := by subst ht hs; exact h
theorem reso0Z {fn : Func} {n : Nat} {R : AV → List TK → Prop} (hr : fn.results = #[]) (h : R (.tu []) (st.take n)) (hn : n ≤ st.length := by exact Nat.le_of_ble_eq_true rfl) (hc : cleanS (st.take n) = true := by simp only [SltT, fat_ren, fat_all, cleanS, cle_owM, cle_own, cle_nown, cle_obj, cle_off, cle_box, okC, liveA, List.take_succ_cons, List.take_zero, List.all_cons, List.all_nil, List.getElem?_cons_zero, List.getElem?_cons_succ, isO_owM, isO_own, isO_nown, TC.isB, beq_self_eq_true, Bool.and_self, Bool.and_true, ok1, ok2, List.map_cons, List.map_nil]) : ResO P fn n R t st := reso0 hr hn hc h
theorem reso1Z {fn : Func} {n : Nat} {R : AV → List TK → Prop} {r1 : ResultVar} {z1 y1 : AV} (hr : fn.results = #[r1]) (h1 : ResV P t st r1 z1) (hz1 : resO1 n st z1 = some y1) (h : R (y1) (st.take n)) (hn : n ≤ st.length := by exact Nat.le_of_ble_eq_true rfl) (hc : cleanS (st.take n) = true := by simp only [SltT, fat_ren, fat_all, cleanS, cle_owM, cle_own, cle_nown, cle_obj, cle_off, cle_box, okC, liveA, List.take_succ_cons, List.take_zero, List.all_cons, List.all_nil, List.getElem?_cons_zero, List.getElem?_cons_succ, isO_owM, isO_own, isO_nown, TC.isB, beq_self_eq_true, Bool.and_self, Bool.and_true, ok1, ok2, List.map_cons, List.map_nil]) (hok : ok2 (st.take n) (y1) = true := by simp only [SltT, fat_ren, fat_all, cleanS, cle_owM, cle_own, cle_nown, cle_obj, cle_off, cle_box, okC, liveA, List.take_succ_cons, List.take_zero, List.all_cons, List.all_nil, List.getElem?_cons_zero, List.getElem?_cons_succ, isO_owM, isO_own, isO_nown, TC.isB, beq_self_eq_true, Bool.and_self, Bool.and_true, ok1, ok2, List.map_cons, List.map_nil]) : ResO P fn n R t st := reso1 hr hn hc h1 hz1 hok h
theorem reso2Z {fn : Func} {n : Nat} {R : AV → List TK → Prop} {r1 r2 : ResultVar} {z1 y1 z2 y2 : AV} (hr : fn.results = #[r1, r2]) (h1 : ResV P t st r1 z1) (hz1 : resO1 n st z1 = some y1) (h2 : ResV P t st r2 z2) (hz2 : resO1 n st z2 = some y2) (h : R (.tu [y1, y2]) (st.take n)) (hn : n ≤ st.length := by exact Nat.le_of_ble_eq_true rfl) (hc : cleanS (st.take n) = true := by simp only [SltT, fat_ren, fat_all, cleanS, cle_owM, cle_own, cle_nown, cle_obj, cle_off, cle_box, okC, liveA, List.take_succ_cons, List.take_zero, List.all_cons, List.all_nil, List.getElem?_cons_zero, List.getElem?_cons_succ, isO_owM, isO_own, isO_nown, TC.isB, beq_self_eq_true, Bool.and_self, Bool.and_true, ok1, ok2, List.map_cons, List.map_nil]) (hok : ok2 (st.take n) (.tu [y1, y2]) = true := by simp only [SltT, fat_ren, fat_all, cleanS, cle_owM, cle_own, cle_nown, cle_obj, cle_off, cle_box, okC, liveA, List.take_succ_cons, List.take_zero, List.all_cons, List.all_nil, List.getElem?_cons_zero, List.getElem?_cons_succ, isO_owM, isO_own, isO_nown, TC.isB, beq_self_eq_true, Bool.and_self, Bool.and_true, ok1, ok2, List.map_cons, List.map_nil]) : ResO P fn n R t st := reso2 hr hn hc h1 hz1 h2 hz2 hok h
theorem reso3Z {fn : Func} {n : Nat} {R : AV → List TK → Prop} {r1 r2 r3 : ResultVar} {z1 y1 z2 y2 z3 y3 : AV} (hr : fn.results = #[r1, r2, r3]) (h1 : ResV P t st r1 z1) (hz1 : resO1 n st z1 = some y1) (h2 : ResV P t st r2 z2) (hz2 : resO1 n st z2 = some y2) (h3 : ResV P t st r3 z3) (hz3 : resO1 n st z3 = some y3) (h : R (.tu [y1, y2, y3]) (st.take n)) (hn : n ≤ st.length := by exact Nat.le_of_ble_eq_true rfl) (hc : cleanS (st.take n) = true := by simp only [SltT, fat_ren, fat_all, cleanS, cle_owM, cle_own, cle_nown, cle_obj, cle_off, cle_box, okC, liveA, List.take_succ_cons, List.take_zero, List.all_cons, List.all_nil, List.getElem?_cons_zero, List.getElem?_cons_succ, isO_owM, isO_own, isO_nown, TC.isB, beq_self_eq_true, Bool.and_self, Bool.and_true, ok1, ok2, List.map_cons, List.map_nil]) (hok : ok2 (st.take n) (.tu [y1, y2, y3]) = true := by simp only [SltT, fat_ren, fat_all, cleanS, cle_owM, cle_own, cle_nown, cle_obj, cle_off, cle_box, okC, liveA, List.take_succ_cons, List.take_zero, List.all_cons, List.all_nil, List.getElem?_cons_zero, List.getElem?_cons_succ, isO_owM, isO_own, isO_nown, TC.isB, beq_self_eq_true, Bool.and_self, Bool.and_true, ok1, ok2, List.map_cons, List.map_nil]) : ResO P fn n R t st := reso3 hr hn hc h1 hz1 h2 hz2 h3 hz3 hok h
end
theorem ze_Slt : zeroC Try.prog 119 = some (.pointer none :: (tabL (fun _ => 0) ++ [.int .i64 0, .int .i64 0, .int .i64 0, .slice none 0 0, .bool false])) := by kernel_rfl
theorem ze_SltA : (Value.pointer none :: (tabL (fun _ => 0) ++ [.int .i64 0, .int .i64 0, .int .i64 0, .slice none 0 0, .bool false])).map AV.sc = fatC [.sc (.pointer none)] (fun _ => 0) [.sc (.int .i64 0), .sc (.int .i64 0), .sc (.int .i64 0), .sc (.slice none 0 0), .sc (.bool false)] := by simp [fatC, tabA]
theorem rd_sltbuild {o : Oper} {t : List AV} {st : List TK} {x0 x1 x2 x3 : Operand} {k g : Nat} {c : TC} {f : Nat → Nat} {a b : Int} (ho : o.op = .build 119 #[(0, x0), (1, x1), (2, x2), (3, x3)]) (h0 : evA t x0 = .bx k g 0) (hk : st[k]? = some ⟨g, c⟩) (hc : c.isB = true) (h1 : evA t x1 = .sc (tabV f)) (h2 : evA t x2 = .sc (.int .i64 a)) (h3 : evA t x3 = .sc (.int .i64 b)) :
    ARd Try.prog o t st (.ag (fatC [.bx k g 0] f [.sc (.int .i64 a), .sc (.int .i64 b), .sc (.int .i64 0), .sc (.slice none 0 0), .sc (.bool false)])) := by
  refine rd_build (qs := [(0, [.bx k g 0]), (1, tabA f), (2, [.sc (.int .i64 a)]), (3, [.sc (.int .i64 b)])]) ho pl_119 ze_Slt ?_ ?_
  · exact parts_cons (by rw [h0]; rfl) (by rw [h0]; exact live_box hk hc) (parts_cons (by rw [h1]; exact tab_cells f) (by rw [h1]; rfl) (parts_cons (by rw [h2]; rfl) (by rw [h2]; rfl) (parts_cons (by rw [h3]; rfl) (by rw [h3]; rfl) rfl)))
  · rw [ze_SltA]
    have e0 : splA (fatC [.sc (.pointer none)] (fun _ => 0) [.sc (.int .i64 0), .sc (.int .i64 0), .sc (.int .i64 0), .sc (.slice none 0 0), .sc (.bool false)]) 0 [.bx k g 0] = fatC [.bx k g 0] (fun _ => 0) [.sc (.int .i64 0), .sc (.int .i64 0), .sc (.int .i64 0), .sc (.slice none 0 0), .sc (.bool false)] := rfl
    have s1 : ∀ (p y : List AV) (u : Nat → Nat) (n i : Nat) (z : AV), n = p.length + 256 + i → splA (fatC p u y) n [z] = fatC p u (y.set i z) := fun p y u n i z hn => by simp only [splA]; exact fat_set i hn z
    rw [fillA]
    simp only [List.getElem?_cons_zero]
    rw [if_neg (by simp [fat_len]), e0, fillA]
    simp only [List.getElem?_cons_zero, List.getElem?_cons_succ]
    rw [if_neg (by simp [fat_len, tabA_len]), fat_spl (pre := [.bx k g 0]) (n := 1) rfl, fillA]
    simp only [List.getElem?_cons_zero, List.getElem?_cons_succ]
    rw [if_neg (by simp [fat_len]), s1 _ _ _ 257 0 _ rfl, fillA]
    simp only [List.getElem?_cons_zero, List.getElem?_cons_succ]
    rw [if_neg (by simp [fat_len]), s1 _ _ _ 258 1 _ rfl, fillA]
    rfl
/-- A cell that holds no slice is an empty one. -/
theorem rd_nilcell {P : Program} {o : Oper} {t : List AV} {st : List TK} {cs cs' : List AV} (h : ARd P o t st (.ag cs)) (hl : cs.length = cs'.length) (hc : ∀ (j : Nat) x y, cs[j]? = some x → cs'[j]? = some y → x = y ∨ (x = .sc (.slice none 0 0) ∧ y = .sl [])) : ARd P o t st (.ag cs') := fun F ρ w0 w a hs hm => by
  obtain ⟨v, h1, h2⟩ := h F ρ w0 w a hs hm
  refine ⟨v, ?_, h2⟩
  obtain ⟨vs, rfl, g1, g2, g3⟩ := h1.ag_inv
  refine .ag vs cs' (g1.trans hl) g2 fun j v y hv hy => ?_
  have hj : j < cs.length := by have := (List.getElem?_eq_some_iff.1 hy).1; omega
  have hx : cs[j]? = some cs[j] := List.getElem?_eq_getElem hj
  rcases hc j _ y hx hy with e | ⟨e1, e2⟩
  · rw [← e]; exact g3 j v _ hv hx
  · have := g3 j v _ hv hx
    rw [e1] at this
    rw [e2, this.of_sc]
    exact .s (.sl0 none 0 (Nat.zero_le _))
theorem rd_sltnew {o : Oper} {t : List AV} {st : List TK} {x0 x1 x2 x3 : Operand} {k g : Nat} {c : TC} {f : Nat → Nat} {a b : Int} (ho : o.op = .build 119 #[(0, x0), (1, x1), (2, x2), (3, x3)]) (h0 : evA t x0 = .bx k g 0) (hk : st[k]? = some ⟨g, c⟩) (hc : c.isB = true) (h1 : evA t x1 = .sc (tabV f)) (h2 : evA t x2 = .sc (.int .i64 a)) (h3 : evA t x3 = .sc (.int .i64 b)) :
    ARd Try.prog o t st (.ag (fatC [.bx k g 0] f [.sc (.int .i64 a), .sc (.int .i64 b), .sc (.int .i64 0), .sl (byA []), .sc (.bool false)])) := by
  refine rd_nilcell (rd_sltbuild ho h0 hk hc h1 h2 h3) (by simp [fat_len]) fun j x y hx hy => ?_
  unfold fatC at hx hy
  rcases Nat.lt_or_ge j 257 with hj | hj
  · left
    rw [← List.append_assoc, List.getElem?_append_left (by simp [tabA_len]; omega)] at hx hy
    rw [hx] at hy
    injection hy
  · rw [← List.append_assoc, List.getElem?_append_right (by simp [tabA_len]; omega)] at hx hy
    simp only [List.length_append, tabA_len, List.length_cons, List.length_nil] at hx hy
    rcases (by omega : j = 257 ∨ j = 258 ∨ j = 259 ∨ j = 260 ∨ j = 261 ∨ 262 ≤ j) with rfl | rfl | rfl | rfl | rfl | h6
    · simp at hx hy; subst hx hy; exact .inl rfl
    · simp at hx hy; subst hx hy; exact .inl rfl
    · simp at hx hy; subst hx hy; exact .inl rfl
    · simp at hx hy; subst hx hy; exact .inr ⟨rfl, rfl⟩
    · simp at hx hy; subst hx hy; exact .inl rfl
    · rw [List.getElem?_eq_none (by simp; omega)] at hx; cases hx
/-- What opening finds. -/
def pick1 (a : Nat × List UInt8) (i : Int) (S : SltD) : SltD := if (a.1 : Int) > S.epoch then { S with counts := i, epoch := a.1, bytes := a.2 } else S
def openS (t : Nat → Nat) (d : DiskD) (f : Nat) : SltD := pick1 (slotN t (d.n (f + 1))) 1 (pick1 (slotN t (d.n f)) 0 ⟨f, 1, 0, [], false⟩)
section
variable {t : Nat → Nat} {d : DiskD} {f : Nat}
theorem opS1 (h : (0 : Int) < ((slotN t (d.n f)).1 : Int)) (h2 : ((slotN t (d.n f)).1 : Int) < ((slotN t (d.n (f + 1))).1 : Int)) : openS t d f = ⟨f, 1, (slotN t (d.n (f + 1))).1, (slotN t (d.n (f + 1))).2, false⟩ := by simp only [openS, pick1, gt_iff_lt, if_pos h, if_pos h2]
theorem opS2 (h : (0 : Int) < ((slotN t (d.n f)).1 : Int)) (h2 : ¬ ((slotN t (d.n f)).1 : Int) < ((slotN t (d.n (f + 1))).1 : Int)) : openS t d f = ⟨f, 0, (slotN t (d.n f)).1, (slotN t (d.n f)).2, false⟩ := by simp only [openS, pick1, gt_iff_lt, if_pos h, if_neg h2]
theorem opS3 (h : ¬ (0 : Int) < ((slotN t (d.n f)).1 : Int)) (h2 : (0 : Int) < ((slotN t (d.n (f + 1))).1 : Int)) : openS t d f = ⟨f, 1, (slotN t (d.n (f + 1))).1, (slotN t (d.n (f + 1))).2, false⟩ := by simp only [openS, pick1, gt_iff_lt, if_neg h, if_pos h2]
theorem opS4 (h : ¬ (0 : Int) < ((slotN t (d.n f)).1 : Int)) (h2 : ¬ (0 : Int) < ((slotN t (d.n (f + 1))).1 : Int)) : openS t d f = ⟨f, 1, 0, [], false⟩ := by simp only [openS, pick1, gt_iff_lt, if_neg h, if_neg h2]
end
section
variable {k : Nat} (t : Nat → Nat) (ht : ∀ i, i < 256 → t i < 4294967296) (d : DiskD) (hd : d.Ok k) (hk : k ≤ 900000) (G h : Nat) (f : Nat) (hf : f < 3)
include ht hd hk hf
theorem sopen_c (hdk : d.dark = false) : ACo Try.prog 50 [.bx 0 G 0, .sc (tabV t), .sc (.int .i64 (f : Int))] [⟨G, .obj (DiskP d)⟩, ⟨h, .off⟩] (fun y os => y = .tu [.bx 1 (h + 1) 0, .sc (.int .i64 0)] ∧ os = [⟨G, .obj (DiskP d)⟩, ⟨h + 1, .box 119 (fatC [.bx 0 G 0] t [.sc (.int .i64 (f : Int)), .sc (.int .i64 (openS t d f).counts), .sc (.int .i64 (openS t d f).epoch), .sl (byA (openS t d f).bytes), .sc (.bool false)])⟩]) := by
  have hnx : ∀ i, (d.n i).length ≤ 1099511627776 := fun i => Nat.le_trans (hd.nlen i) (by decide)
  refine ACo.of' (st0 := [⟨G, .obj (DiskP d)⟩, ⟨h, .off⟩, TK.mk 0 .off, TK.mk 0 .off]) 64 2 Try.func50 rfl 2 ?_
  refine AW.seq ?_
  refine AW.region ?_
  refine AL.op rfl (AOpB.op (op_tabbox 2 rfl rfl rfl ?_))
  refine AL.no ?_
  refine AL.ra ?_
  refine AL.ra ?_
  refine AL.nil ?_
  change AW _ _ _ _ _
  refine AW.seq ?_
  refine AW.seq ?_
  refine AW.region ?_
  refine AL.rm ?_
  refine AL.r (rd_peq_bx rfl pt_25 rfl rfl rfl) ?_
  refine AL.nil ?_
  change AW _ _ _ _ _
  refine AW.cond_f rfl ?_
  refine AW.skip ?_
  change AW _ _ _ _ _
  refine AW.seq ?_
  refine AW.seq ?_
  refine AW.region ?_
  refine AL.rm ?_
  refine AL.r (rd_bin rfl rfl rfl (fun _ => rfl)) ?_
  refine AL.rm ?_
  refine AL.fk (d := 18) rfl (fun h18 => ?_) (fun h18 => ?_)
  ·skip
   refine AL.n ?_
   refine AL.rf ?_
   refine AL.rf ?_
   refine AL.r (rd_pick_t rfl rfl rfl) ?_
   refine AL.nil ?_
   change AW _ _ _ _ _
   refine AW.cond_t rfl ?_
   refine AW.seq ?_
   omega
  ·skip
   refine AL.n ?_
   refine AL.ro (rd_move rfl rfl) ?_
   refine AL.ro (rd_bin rfl rfl rfl (fun _ => rfl)) ?_
   refine AL.r (rd_pick_f rfl rfl rfl) ?_
   refine AL.nil ?_
   change AW _ _ _ _ _
   refine AW.cd rfl (fun h21 => ?_) (fun h21 => ?_)
   ·skip
    refine AW.seq ?_
    omega
   ·skip
    refine AW.skip ?_
    change AW _ _ _ _ _
    refine AW.seq ?_
    refine AW.region ?_
    refine AL.rm ?_
    refine AL.r (rd_tab0 rfl ag_53 rfl rfl) ?_
    refine AL.rm ?_
    refine AL.r (rd_sltnew rfl rfl rfl rfl rfl rfl rfl) ?_
    refine AL.op rfl (AOpB.op (op_box 1 rfl rfl rfl rfl rfl ?_))
    refine AL.no ?_
    refine AL.ra ?_
    refine AL.nil ?_
    change AW _ _ _ _ _
    refine AW.seq ?_
    refine AW.seq ?_
    refine AW.region ?_
    refine AL.rm ?_
    refine AL.nil ?_
    change AW _ _ _ _ _
    refine AW.block ?_
    refine AW.unroll 3 ?_
    change AW _ _ _ _ _
    refine AW.seq ?_
    refine AW.region ?_
    refine AL.r (rd_bin rfl rfl rfl (fun _ => rfl)) ?_
    refine AL.nil ?_
    change AW _ _ _ _ _
    refine AW.seq ?_
    refine AW.cond_t rfl ?_
    refine AW.skip ?_
    change AW _ _ _ _ _
    refine AW.seq ?_
    refine AW.block ?_
    refine AW.seq ?_
    refine AW.region ?_
    refine AL.rm ?_
    refine AL.ra ?_
    refine AL.nil ?_
    change AW _ _ _ _ _
    refine AW.seq ?_
    refine AW.region ?_
    refine AL.rm ?_
    refine AL.rm ?_
    refine AL.rm ?_
    refine AL.r (rd_arith_add rfl rfl rfl (IntWalk.i64_in _ (by omega))) ?_
    refine AL.op rfl (calloF (read_v hd (by omega) G (f + 0) (by omega) hdk rfl) [0] ?_)
    rintro y os' ⟨rfl, rfl⟩
    refine AL.noF ?_
    refine AL.rm ?_
    refine AL.r (rd_extract rfl rfl rfl) ?_
    refine AL.r (rd_extract rfl rfl rfl) ?_
    refine AL.ra ?_
    refine AL.ra ?_
    refine AL.nil ?_
    change AW _ _ _ _ _
    refine AW.seq ?_
    refine AW.seq ?_
    refine AW.region ?_
    refine AL.rm ?_
    refine AL.r (rd_bin rfl rfl rfl (fun _ => rfl)) ?_
    refine AL.nil ?_
    change AW _ _ _ _ _
    refine AW.cond_f rfl ?_
    refine AW.skip ?_
    change AW _ _ _ _ _
    refine AW.seq ?_
    refine AW.region ?_
    refine AL.rm ?_
    refine AL.r (rd_tab0 rfl ag_53 rfl rfl) ?_
    refine AL.op rfl (AOpB.op (op_call (slook_c t ht (d.n _) (hnx _)) rfl (by kernel_rfl) rfl (none) ?_))
    rintro r rfl
    refine AL.no ?_
    refine AL.rm ?_
    refine AL.r (rd_extract rfl rfl rfl) ?_
    refine AL.r (rd_extract rfl rfl rfl) ?_
    refine AL.ra ?_
    refine AL.ra ?_
    refine AL.nil ?_
    change AW _ _ _ _ _
    refine AW.seq ?_
    refine AW.region ?_
    refine AL.rm ?_
    refine AL.rm ?_
    refine AL.r (rd_nilc_bx rfl rfl rfl) ?_
    refine AL.r (rd_faddr_bx rfl fo_119_4 rfl rfl ⟨_, _, rfl⟩) ?_
    refine AL.r (rd_load_bx rfl ag_2 rfl rfl (fat_post 2 rfl rfl)) ?_
    refine AL.r (rd_bin rfl rfl rfl (fun _ => rfl)) ?_
    refine AL.nil ?_
    change AW _ _ _ _ _
    refine AW.cd rfl (fun h52 => ?_) (fun h52 => ?_)
    ·skip
     refine AW.region ?_
     refine AL.rm ?_
     refine AL.rm ?_
     refine AL.rm ?_
     refine AL.rm ?_
     refine AL.rm ?_
     refine AL.rm ?_
     refine AL.r (rd_nilc_bx rfl rfl rfl) ?_
     refine AL.r (rd_faddr_bx rfl fo_119_3 rfl rfl ⟨_, _, rfl⟩) ?_
     refine AL.op rfl (op_fatstore 1 rfl rfl rfl rfl (Nat.le_of_ble_eq_true rfl) rfl rfl rfl sz_3 ?_)
     refine AL.no ?_
     refine AL.r (rd_nilc_bx rfl rfl rfl) ?_
     refine AL.r (rd_faddr_bx rfl fo_119_4 rfl rfl ⟨_, _, rfl⟩) ?_
     refine AL.op rfl (op_fatstore 2 rfl rfl rfl rfl (Nat.le_of_ble_eq_true rfl) rfl rfl rfl sz_2 ?_)
     refine AL.no ?_
     refine AL.r (rd_nilc_bx rfl rfl rfl) ?_
     refine AL.r (rd_faddr_bx rfl fo_119_5 rfl rfl ⟨_, _, rfl⟩) ?_
     refine AL.op rfl (op_fatstore 3 rfl rfl rfl rfl (Nat.le_of_ble_eq_true rfl) rfl rfl rfl sz_29 ?_)
     refine AL.no ?_
     refine AL.nil ?_
     change AW _ _ _ _ _
     refine AW.region ?_
     refine AL.r (rd_arith_add rfl rfl rfl (rfl : _ = (1 : Int))) ?_
     refine AL.rm ?_
     refine AL.nil ?_
     change AW _ _ _ _ _
     refine AW.seq ?_
     refine AW.region ?_
     refine AL.r (rd_bin rfl rfl rfl (fun _ => rfl)) ?_
     refine AL.nil ?_
     change AW _ _ _ _ _
     refine AW.seq ?_
     refine AW.cond_t rfl ?_
     refine AW.skip ?_
     change AW _ _ _ _ _
     refine AW.seq ?_
     refine AW.block ?_
     refine AW.seq ?_
     refine AW.region ?_
     refine AL.rm ?_
     refine AL.ra ?_
     refine AL.nil ?_
     change AW _ _ _ _ _
     refine AW.seq ?_
     refine AW.region ?_
     refine AL.rm ?_
     refine AL.rm ?_
     refine AL.rm ?_
     refine AL.r (rd_arith_add rfl rfl rfl (IntWalk.i64_in _ (by omega))) ?_
     refine AL.op rfl (calloF (read_v hd (by omega) G (f + 1) (by omega) hdk rfl) [0] ?_)
     rintro y os' ⟨rfl, rfl⟩
     refine AL.noF ?_
     refine AL.rm ?_
     refine AL.r (rd_extract rfl rfl rfl) ?_
     refine AL.r (rd_extract rfl rfl rfl) ?_
     refine AL.ra ?_
     refine AL.ra ?_
     refine AL.nil ?_
     change AW _ _ _ _ _
     refine AW.seq ?_
     refine AW.seq ?_
     refine AW.region ?_
     refine AL.rm ?_
     refine AL.r (rd_bin rfl rfl rfl (fun _ => rfl)) ?_
     refine AL.nil ?_
     change AW _ _ _ _ _
     refine AW.cond_f rfl ?_
     refine AW.skip ?_
     change AW _ _ _ _ _
     refine AW.seq ?_
     refine AW.region ?_
     refine AL.rm ?_
     refine AL.r (rd_tab0 rfl ag_53 rfl rfl) ?_
     refine AL.op rfl (AOpB.op (op_call (slook_c t ht (d.n _) (hnx _)) rfl (by kernel_rfl) rfl (none) ?_))
     rintro r rfl
     refine AL.no ?_
     refine AL.rm ?_
     refine AL.r (rd_extract rfl rfl rfl) ?_
     refine AL.r (rd_extract rfl rfl rfl) ?_
     refine AL.ra ?_
     refine AL.ra ?_
     refine AL.nil ?_
     change AW _ _ _ _ _
     refine AW.seq ?_
     refine AW.region ?_
     refine AL.rm ?_
     refine AL.rm ?_
     refine AL.r (rd_nilc_bx rfl rfl rfl) ?_
     refine AL.r (rd_faddr_bx rfl fo_119_4 rfl rfl ⟨_, _, rfl⟩) ?_
     refine AL.r (rd_load_bx rfl ag_2 rfl rfl (fat_post 2 rfl rfl)) ?_
     refine AL.r (rd_bin rfl rfl rfl (fun _ => rfl)) ?_
     refine AL.nil ?_
     change AW _ _ _ _ _
     refine AW.cd rfl (fun h52 => ?_) (fun h52 => ?_)
     ·skip
      refine AW.region ?_
      refine AL.rm ?_
      refine AL.rm ?_
      refine AL.rm ?_
      refine AL.rm ?_
      refine AL.rm ?_
      refine AL.rm ?_
      refine AL.r (rd_nilc_bx rfl rfl rfl) ?_
      refine AL.r (rd_faddr_bx rfl fo_119_3 rfl rfl ⟨_, _, rfl⟩) ?_
      refine AL.op rfl (op_fatstore 1 rfl rfl rfl rfl (Nat.le_of_ble_eq_true rfl) rfl rfl rfl sz_3 ?_)
      refine AL.no ?_
      refine AL.r (rd_nilc_bx rfl rfl rfl) ?_
      refine AL.r (rd_faddr_bx rfl fo_119_4 rfl rfl ⟨_, _, rfl⟩) ?_
      refine AL.op rfl (op_fatstore 2 rfl rfl rfl rfl (Nat.le_of_ble_eq_true rfl) rfl rfl rfl sz_2 ?_)
      refine AL.no ?_
      refine AL.r (rd_nilc_bx rfl rfl rfl) ?_
      refine AL.r (rd_faddr_bx rfl fo_119_5 rfl rfl ⟨_, _, rfl⟩) ?_
      refine AL.op rfl (op_fatstore 3 rfl rfl rfl rfl (Nat.le_of_ble_eq_true rfl) rfl rfl rfl sz_29 ?_)
      refine AL.no ?_
      refine AL.nil ?_
      change AW _ _ _ _ _
      refine AW.region ?_
      refine AL.r (rd_arith_add rfl rfl rfl (rfl : _ = (2 : Int))) ?_
      refine AL.rm ?_
      refine AL.nil ?_
      change AW _ _ _ _ _
      refine AW.seq ?_
      refine AW.region ?_
      refine AL.r (rd_bin rfl rfl rfl (fun _ => rfl)) ?_
      refine AL.nil ?_
      change AW _ _ _ _ _
      refine AW.seq ?_
      refine AW.cond_f rfl ?_
      refine AW.exit ?_
      change AW _ _ _ _ _
      refine AW.seq ?_
      refine AW.region ?_
      refine AL.rm ?_
      refine AL.ra ?_
      refine AL.ra ?_
      refine AL.nil ?_
      change AW _ _ _ _ _
      refine AW.ret ?_
      repeat with_reducible first | refine thenA_ret ?_ | refine inBlockA_ret ?_
      with_reducible first | refine retO_ret ?_ | refine retO_normal ?_
      refine reso2F rfl (ResV.tmp rfl) (resO_bx (by decide) rfl) (ResV.tmp rfl) rfl ?_
      rename_i h0
      first | (have e := opS1 h0 h52; rw [e]; exact ⟨rfl, rfl⟩) | (have e := opS2 h0 h52; rw [e]; exact ⟨rfl, rfl⟩) | (have e := opS3 h0 h52; rw [e]; exact ⟨rfl, rfl⟩) | (have e := opS4 h0 h52; rw [e]; exact ⟨rfl, rfl⟩)
     ·skip
      refine AW.skip ?_
      change AW _ _ _ _ _
      refine AW.region ?_
      refine AL.r (rd_arith_add rfl rfl rfl (rfl : _ = (2 : Int))) ?_
      refine AL.rm ?_
      refine AL.nil ?_
      change AW _ _ _ _ _
      refine AW.seq ?_
      refine AW.region ?_
      refine AL.r (rd_bin rfl rfl rfl (fun _ => rfl)) ?_
      refine AL.nil ?_
      change AW _ _ _ _ _
      refine AW.seq ?_
      refine AW.cond_f rfl ?_
      refine AW.exit ?_
      change AW _ _ _ _ _
      refine AW.seq ?_
      refine AW.region ?_
      refine AL.rm ?_
      refine AL.ra ?_
      refine AL.ra ?_
      refine AL.nil ?_
      change AW _ _ _ _ _
      refine AW.ret ?_
      repeat with_reducible first | refine thenA_ret ?_ | refine inBlockA_ret ?_
      with_reducible first | refine retO_ret ?_ | refine retO_normal ?_
      refine reso2F rfl (ResV.tmp rfl) (resO_bx (by decide) rfl) (ResV.tmp rfl) rfl ?_
      rename_i h0
      first | (have e := opS1 h0 h52; rw [e]; exact ⟨rfl, rfl⟩) | (have e := opS2 h0 h52; rw [e]; exact ⟨rfl, rfl⟩) | (have e := opS3 h0 h52; rw [e]; exact ⟨rfl, rfl⟩) | (have e := opS4 h0 h52; rw [e]; exact ⟨rfl, rfl⟩)
    ·skip
     refine AW.skip ?_
     change AW _ _ _ _ _
     refine AW.region ?_
     refine AL.r (rd_arith_add rfl rfl rfl (rfl : _ = (1 : Int))) ?_
     refine AL.rm ?_
     refine AL.nil ?_
     change AW _ _ _ _ _
     refine AW.seq ?_
     refine AW.region ?_
     refine AL.r (rd_bin rfl rfl rfl (fun _ => rfl)) ?_
     refine AL.nil ?_
     change AW _ _ _ _ _
     refine AW.seq ?_
     refine AW.cond_t rfl ?_
     refine AW.skip ?_
     change AW _ _ _ _ _
     refine AW.seq ?_
     refine AW.block ?_
     refine AW.seq ?_
     refine AW.region ?_
     refine AL.rm ?_
     refine AL.ra ?_
     refine AL.nil ?_
     change AW _ _ _ _ _
     refine AW.seq ?_
     refine AW.region ?_
     refine AL.rm ?_
     refine AL.rm ?_
     refine AL.rm ?_
     refine AL.r (rd_arith_add rfl rfl rfl (IntWalk.i64_in _ (by omega))) ?_
     refine AL.op rfl (calloF (read_v hd (by omega) G (f + 1) (by omega) hdk rfl) [0] ?_)
     rintro y os' ⟨rfl, rfl⟩
     refine AL.noF ?_
     refine AL.rm ?_
     refine AL.r (rd_extract rfl rfl rfl) ?_
     refine AL.r (rd_extract rfl rfl rfl) ?_
     refine AL.ra ?_
     refine AL.ra ?_
     refine AL.nil ?_
     change AW _ _ _ _ _
     refine AW.seq ?_
     refine AW.seq ?_
     refine AW.region ?_
     refine AL.rm ?_
     refine AL.r (rd_bin rfl rfl rfl (fun _ => rfl)) ?_
     refine AL.nil ?_
     change AW _ _ _ _ _
     refine AW.cond_f rfl ?_
     refine AW.skip ?_
     change AW _ _ _ _ _
     refine AW.seq ?_
     refine AW.region ?_
     refine AL.rm ?_
     refine AL.r (rd_tab0 rfl ag_53 rfl rfl) ?_
     refine AL.op rfl (AOpB.op (op_call (slook_c t ht (d.n _) (hnx _)) rfl (by kernel_rfl) rfl (none) ?_))
     rintro r rfl
     refine AL.no ?_
     refine AL.rm ?_
     refine AL.r (rd_extract rfl rfl rfl) ?_
     refine AL.r (rd_extract rfl rfl rfl) ?_
     refine AL.ra ?_
     refine AL.ra ?_
     refine AL.nil ?_
     change AW _ _ _ _ _
     refine AW.seq ?_
     refine AW.region ?_
     refine AL.rm ?_
     refine AL.rm ?_
     refine AL.r (rd_nilc_bx rfl rfl rfl) ?_
     refine AL.r (rd_faddr_bx rfl fo_119_4 rfl rfl ⟨_, _, rfl⟩) ?_
     refine AL.r (rd_load_bx rfl ag_2 rfl rfl (fat_post 2 rfl rfl)) ?_
     refine AL.r (rd_bin rfl rfl rfl (fun _ => rfl)) ?_
     refine AL.nil ?_
     change AW _ _ _ _ _
     refine AW.cd rfl (fun h52 => ?_) (fun h52 => ?_)
     ·skip
      refine AW.region ?_
      refine AL.rm ?_
      refine AL.rm ?_
      refine AL.rm ?_
      refine AL.rm ?_
      refine AL.rm ?_
      refine AL.rm ?_
      refine AL.r (rd_nilc_bx rfl rfl rfl) ?_
      refine AL.r (rd_faddr_bx rfl fo_119_3 rfl rfl ⟨_, _, rfl⟩) ?_
      refine AL.op rfl (op_fatstore 1 rfl rfl rfl rfl (Nat.le_of_ble_eq_true rfl) rfl rfl rfl sz_3 ?_)
      refine AL.no ?_
      refine AL.r (rd_nilc_bx rfl rfl rfl) ?_
      refine AL.r (rd_faddr_bx rfl fo_119_4 rfl rfl ⟨_, _, rfl⟩) ?_
      refine AL.op rfl (op_fatstore 2 rfl rfl rfl rfl (Nat.le_of_ble_eq_true rfl) rfl rfl rfl sz_2 ?_)
      refine AL.no ?_
      refine AL.r (rd_nilc_bx rfl rfl rfl) ?_
      refine AL.r (rd_faddr_bx rfl fo_119_5 rfl rfl ⟨_, _, rfl⟩) ?_
      refine AL.op rfl (op_fatstore 3 rfl rfl rfl rfl (Nat.le_of_ble_eq_true rfl) rfl rfl rfl sz_29 ?_)
      refine AL.no ?_
      refine AL.nil ?_
      change AW _ _ _ _ _
      refine AW.region ?_
      refine AL.r (rd_arith_add rfl rfl rfl (rfl : _ = (2 : Int))) ?_
      refine AL.rm ?_
      refine AL.nil ?_
      change AW _ _ _ _ _
      refine AW.seq ?_
      refine AW.region ?_
      refine AL.r (rd_bin rfl rfl rfl (fun _ => rfl)) ?_
      refine AL.nil ?_
      change AW _ _ _ _ _
      refine AW.seq ?_
      refine AW.cond_f rfl ?_
      refine AW.exit ?_
      change AW _ _ _ _ _
      refine AW.seq ?_
      refine AW.region ?_
      refine AL.rm ?_
      refine AL.ra ?_
      refine AL.ra ?_
      refine AL.nil ?_
      change AW _ _ _ _ _
      refine AW.ret ?_
      repeat with_reducible first | refine thenA_ret ?_ | refine inBlockA_ret ?_
      with_reducible first | refine retO_ret ?_ | refine retO_normal ?_
      refine reso2F rfl (ResV.tmp rfl) (resO_bx (by decide) rfl) (ResV.tmp rfl) rfl ?_
      rename_i h0
      first | (have e := opS1 h0 h52; rw [e]; exact ⟨rfl, rfl⟩) | (have e := opS2 h0 h52; rw [e]; exact ⟨rfl, rfl⟩) | (have e := opS3 h0 h52; rw [e]; exact ⟨rfl, rfl⟩) | (have e := opS4 h0 h52; rw [e]; exact ⟨rfl, rfl⟩)
     ·skip
      refine AW.skip ?_
      change AW _ _ _ _ _
      refine AW.region ?_
      refine AL.r (rd_arith_add rfl rfl rfl (rfl : _ = (2 : Int))) ?_
      refine AL.rm ?_
      refine AL.nil ?_
      change AW _ _ _ _ _
      refine AW.seq ?_
      refine AW.region ?_
      refine AL.r (rd_bin rfl rfl rfl (fun _ => rfl)) ?_
      refine AL.nil ?_
      change AW _ _ _ _ _
      refine AW.seq ?_
      refine AW.cond_f rfl ?_
      refine AW.exit ?_
      change AW _ _ _ _ _
      refine AW.seq ?_
      refine AW.region ?_
      refine AL.rm ?_
      refine AL.ra ?_
      refine AL.ra ?_
      refine AL.nil ?_
      change AW _ _ _ _ _
      refine AW.ret ?_
      repeat with_reducible first | refine thenA_ret ?_ | refine inBlockA_ret ?_
      with_reducible first | refine retO_ret ?_ | refine retO_normal ?_
      refine reso2F rfl (ResV.tmp rfl) (resO_bx (by decide) rfl) (ResV.tmp rfl) rfl ?_
      rename_i h0
      first | (have e := opS1 h0 h52; rw [e]; exact ⟨rfl, rfl⟩) | (have e := opS2 h0 h52; rw [e]; exact ⟨rfl, rfl⟩) | (have e := opS3 h0 h52; rw [e]; exact ⟨rfl, rfl⟩) | (have e := opS4 h0 h52; rw [e]; exact ⟨rfl, rfl⟩)
omit ht in
theorem sopen_dark (hdk : d.dark = true) : ACo Try.prog 50 [.bx 0 G 0, .sc (tabV t), .sc (.int .i64 (f : Int))] [⟨G, .obj (DiskP d)⟩, ⟨h, .off⟩] (fun y os => ∃ tk, y = .tu [.sc (.pointer none), .sc (.int .i64 10)] ∧ os = [⟨G, .obj (DiskP d)⟩, tk]) := by
  have hr : ACo Try.prog 25 [.bx 0 G 0, .sc (.int .i64 (f : Int))] [⟨G, .obj (DiskP d)⟩] (fun y os' => y = .tu [.sl (byA (rdB d f)), .sc (.int .i64 10)] ∧ os' = [⟨G, .obj (DiskP d)⟩]) := by
    have := ok_read2 hd (by omega) G f (by omega)
    have e : rdC d = 10 := by unfold rdC; rw [hdk]; rfl
    rwa [e] at this
  refine ACo.of' (st0 := [⟨G, .obj (DiskP d)⟩, ⟨h, .off⟩, TK.mk 0 .off, TK.mk 0 .off]) 64 2 Try.func50 rfl 2 ?_
  refine AW.seq ?_
  refine AW.region ?_
  refine AL.op rfl (AOpB.op (op_tabbox 2 rfl rfl rfl ?_))
  refine AL.no ?_
  refine AL.ra ?_
  refine AL.ra ?_
  refine AL.nil ?_
  change AW _ _ _ _ _
  refine AW.seq ?_
  refine AW.seq ?_
  refine AW.region ?_
  refine AL.rm ?_
  refine AL.r (rd_peq_bx rfl pt_25 rfl rfl rfl) ?_
  refine AL.nil ?_
  change AW _ _ _ _ _
  refine AW.cond_f rfl ?_
  refine AW.skip ?_
  change AW _ _ _ _ _
  refine AW.seq ?_
  refine AW.seq ?_
  refine AW.region ?_
  refine AL.rm ?_
  refine AL.r (rd_bin rfl rfl rfl (fun _ => rfl)) ?_
  refine AL.rm ?_
  refine AL.fk (d := 18) rfl (fun h18 => ?_) (fun h18 => ?_)
  ·skip
   refine AL.n ?_
   refine AL.rf ?_
   refine AL.rf ?_
   refine AL.r (rd_pick_t rfl rfl rfl) ?_
   refine AL.nil ?_
   change AW _ _ _ _ _
   refine AW.cond_t rfl ?_
   refine AW.seq ?_
   omega
  ·skip
   refine AL.n ?_
   refine AL.ro (rd_move rfl rfl) ?_
   refine AL.ro (rd_bin rfl rfl rfl (fun _ => rfl)) ?_
   refine AL.r (rd_pick_f rfl rfl rfl) ?_
   refine AL.nil ?_
   change AW _ _ _ _ _
   refine AW.cd rfl (fun h21 => ?_) (fun h21 => ?_)
   ·skip
    refine AW.seq ?_
    omega
   ·skip
    refine AW.skip ?_
    change AW _ _ _ _ _
    refine AW.seq ?_
    refine AW.region ?_
    refine AL.rm ?_
    refine AL.r (rd_tab0 rfl ag_53 rfl rfl) ?_
    refine AL.rm ?_
    refine AL.r (rd_sltnew rfl rfl rfl rfl rfl rfl rfl) ?_
    refine AL.op rfl (AOpB.op (op_box 1 rfl rfl rfl rfl rfl ?_))
    refine AL.no ?_
    refine AL.ra ?_
    refine AL.nil ?_
    change AW _ _ _ _ _
    refine AW.seq ?_
    refine AW.seq ?_
    refine AW.region ?_
    refine AL.rm ?_
    refine AL.nil ?_
    change AW _ _ _ _ _
    refine AW.block ?_
    refine AW.unroll 3 ?_
    change AW _ _ _ _ _
    refine AW.seq ?_
    refine AW.region ?_
    refine AL.r (rd_bin rfl rfl rfl (fun _ => rfl)) ?_
    refine AL.nil ?_
    change AW _ _ _ _ _
    refine AW.seq ?_
    refine AW.cond_t rfl ?_
    refine AW.skip ?_
    change AW _ _ _ _ _
    refine AW.seq ?_
    refine AW.block ?_
    refine AW.seq ?_
    refine AW.region ?_
    refine AL.rm ?_
    refine AL.ra ?_
    refine AL.nil ?_
    change AW _ _ _ _ _
    refine AW.seq ?_
    refine AW.region ?_
    refine AL.rm ?_
    refine AL.rm ?_
    refine AL.rm ?_
    refine AL.r (rd_arith_add rfl rfl rfl ((IntWalk.i64_in _ (by omega)).trans (Int.add_zero _))) ?_
    refine AL.op rfl (calloF (hr) [0] ?_)
    rintro y os' ⟨rfl, rfl⟩
    refine AL.noF ?_
    refine AL.rm ?_
    refine AL.r (rd_extract rfl rfl rfl) ?_
    refine AL.r (rd_extract rfl rfl rfl) ?_
    refine AL.ra ?_
    refine AL.ra ?_
    refine AL.nil ?_
    change AW _ _ _ _ _
    refine AW.seq ?_
    refine AW.seq ?_
    refine AW.region ?_
    refine AL.rm ?_
    refine AL.r (rd_bin rfl rfl rfl (fun _ => rfl)) ?_
    refine AL.nil ?_
    change AW _ _ _ _ _
    refine AW.cond_t rfl ?_
    refine AW.seq ?_
    refine AW.region ?_
    refine AL.rm ?_
    refine AL.ra ?_
    refine AL.ra ?_
    refine AL.nil ?_
    change AW _ _ _ _ _
    refine AW.ret ?_
    repeat with_reducible first | refine thenA_ret ?_ | refine inBlockA_ret ?_
    with_reducible first | refine retO_ret ?_ | refine retO_normal ?_
    refine reso2F rfl (ResV.tmp rfl) rfl (ResV.tmp rfl) rfl ?_
    exact ⟨_, rfl, rfl⟩
end
theorem sopen_nil (t : Nat → Nat) (f : Int) : AC Try.prog 50 [.sc (.pointer none), .sc (tabV t), .sc (.int .i64 f)] (fun r => r = .s (.tu [.sc (.pointer none), .sc (.int .i64 1)])) := by
  refine AC.of' 64 2 Try.func50 rfl ?_
  change AW _ _ _ _ [TK.mk 0 .off, TK.mk 0 .off]
  refine AW.seq ?_
  refine AW.region ?_
  refine AL.op rfl (AOpB.op (op_tabbox 0 rfl rfl rfl ?_))
  refine AL.no ?_
  refine AL.ra ?_
  refine AL.ra ?_
  refine AL.nil ?_
  change AW _ _ _ _ _
  refine AW.seq ?_
  refine AW.seq ?_
  refine AW.region ?_
  refine AL.rm ?_
  refine AL.r (rd_peq_nil rfl pt_25 rfl rfl) ?_
  refine AL.nil ?_
  change AW _ _ _ _ _
  refine AW.cond_t rfl ?_
  refine AW.seq ?_
  refine AW.region ?_
  refine AL.ra ?_
  refine AL.ra ?_
  refine AL.nil ?_
  change AW _ _ _ _ _
  refine AW.ret ?_
  change ResA _ _ _ _ _
  refine res2 rfl (ResV.tmp rfl) rfl (ResV.tmp rfl) rfl ?_
  rfl
theorem sopen_out (t : Nat → Nat) (d : DiskD) (G h : Nat) (f : Int) (hf : ¬(0 ≤ f ∧ f < 3)) : ACo Try.prog 50 [.bx 0 G 0, .sc (tabV t), .sc (.int .i64 f)] [⟨G, .obj (DiskP d)⟩, ⟨h, .off⟩] (fun y os => y = .tu [.sc (.pointer none), .sc (.int .i64 2)] ∧ os = [⟨G, .obj (DiskP d)⟩, ⟨h, .off⟩]) := by
  refine ACo.of' (st0 := [⟨G, .obj (DiskP d)⟩, ⟨h, .off⟩, TK.mk 0 .off, TK.mk 0 .off]) 64 2 Try.func50 rfl 2 ?_
  refine AW.seq ?_
  refine AW.region ?_
  refine AL.op rfl (AOpB.op (op_tabbox 2 rfl rfl rfl ?_))
  refine AL.no ?_
  refine AL.ra ?_
  refine AL.ra ?_
  refine AL.nil ?_
  change AW _ _ _ _ _
  refine AW.seq ?_
  refine AW.seq ?_
  refine AW.region ?_
  refine AL.rm ?_
  refine AL.r (rd_peq_bx rfl pt_25 rfl rfl rfl) ?_
  refine AL.nil ?_
  change AW _ _ _ _ _
  refine AW.cond_f rfl ?_
  refine AW.skip ?_
  change AW _ _ _ _ _
  refine AW.seq ?_
  refine AW.seq ?_
  refine AW.region ?_
  refine AL.rm ?_
  refine AL.r (rd_bin rfl rfl rfl (fun _ => rfl)) ?_
  refine AL.rm ?_
  refine AL.fk (d := 18) rfl (fun h18 => ?_) (fun h18 => ?_)
  ·skip
   refine AL.n ?_
   refine AL.rf ?_
   refine AL.rf ?_
   refine AL.r (rd_pick_t rfl rfl rfl) ?_
   refine AL.nil ?_
   change AW _ _ _ _ _
   refine AW.cond_t rfl ?_
   refine AW.seq ?_
   refine AW.region ?_
   refine AL.ra ?_
   refine AL.ra ?_
   refine AL.nil ?_
   change AW _ _ _ _ _
   refine AW.ret ?_
   repeat with_reducible first | refine thenA_ret ?_ | refine inBlockA_ret ?_
   with_reducible first | refine retO_ret ?_ | refine retO_normal ?_
   refine reso2F rfl (ResV.tmp rfl) rfl (ResV.tmp rfl) rfl ?_
   exact ⟨rfl, rfl⟩
  ·skip
   refine AL.n ?_
   refine AL.ro (rd_move rfl rfl) ?_
   refine AL.ro (rd_bin rfl rfl rfl (fun _ => rfl)) ?_
   refine AL.r (rd_pick_f rfl rfl rfl) ?_
   refine AL.nil ?_
   change AW _ _ _ _ _
   refine AW.cd rfl (fun h21 => ?_) (fun h21 => ?_)
   ·skip
    refine AW.seq ?_
    refine AW.region ?_
    refine AL.ra ?_
    refine AL.ra ?_
    refine AL.nil ?_
    change AW _ _ _ _ _
    refine AW.ret ?_
    repeat with_reducible first | refine thenA_ret ?_ | refine inBlockA_ret ?_
    with_reducible first | refine retO_ret ?_ | refine retO_normal ?_
    refine reso2F rfl (ResV.tmp rfl) rfl (ResV.tmp rfl) rfl ?_
    exact ⟨rfl, rfl⟩
   ·skip
    refine AW.skip ?_
    change AW _ _ _ _ _
    refine AW.seq ?_
    omega
end Go.Proofs.Ytgjpeldgjpgbcaa
