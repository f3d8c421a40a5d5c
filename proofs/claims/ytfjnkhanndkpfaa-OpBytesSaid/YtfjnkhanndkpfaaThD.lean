/- An op got from bytes: the reference, walked over abstract states. Conditions: fewer than 2^40 bytes. -/
import Derived.Test.YtfjnkhanndkpfaaThC
import Derived.Test.YtfjnkhanndkpfaaPnB
namespace Go.Proofs.Ytfjnkhanndkpfaa
set_option linter.unusedSimpArgs false
set_option linter.unusedVariables false
set_option maxRecDepth 100000
set_option maxRecDepth 100000
open Go.RowKit

/-- An own slice is settled ahead of a piece of code. -/
theorem AW.settle {P : Program} {c : Code} {Q : APost} {t : List AV} {st : List TK} (d : Nat) {k g : Nat} {tc : TC} {xs : List (List AV)} (hd : t[d]? = some (.ow k g)) (hk : st[k]? = some ⟨g, tc⟩) (hc : cont tc = some xs) (h : AW P c Q (t.set d (.sl xs)) (st.set k ⟨g, .off⟩)) : AW P c Q t st := fun F ρ w0 w a hs hm => by
  obtain ⟨h1, h2, h3⟩ := hs.settle hk hc
  refine h F ρ w0 w a h1 ?_
  have hm' := hm.mv h2
  refine ⟨hm'.defers, by simp [hm'.size], fun i v x hv hx => ?_⟩
  rw [List.getElem?_set] at hx
  split at hx
  · rename_i e
    subst e
    split at hx
    · injection hx with hx
      subst hx
      exact h3 v (hm.rep _ v _ hv hd)
    · cases hx
  · exact hm'.rep i v x hv hx
def asks20 : List ThingD := [askT 3 0, askT 3 0, askT 0 0, askT 1 12, askT 6 5, askT 1 12, askT 5 0, askT 0 0, askT 2 0, askT 1 40, askT 6 60]
def ask20 (i : Nat) : ThingD := asks20.getD i (askT 0 0)
section
variable (b : List UInt8) (f at0 : Int)
def st8 : Nat → Int
  | 0 => at0
  | k + 1 => (rd8 b (st8 k) f (ask20 k)).2.1
def x8 (i : Nat) : ThingD := (rd8 b (st8 b f at0 i) f (ask20 i)).1
def ok8 (i : Nat) : Bool := (rd8 b (st8 b f at0 i) f (ask20 i)).2.2
def got8 (k : Nat) : List ThingD := (List.range k).map (x8 b f at0)
def dst8 : Nat → List TagD × Int × Bool
  | 0 => ([], st8 b f at0 11, true)
  | j + 1 => ((dst8 j).1 ++ [(rd8 b (dst8 j).2.1 f (askT 3 0)).1.t], (rd8 b (dst8 j).2.1 f (askT 3 0)).2.1, (dst8 j).2.2 && (rd8 b (dst8 j).2.1 f (askT 3 0)).2.2)
def dn8 : Nat := (x8 b f at0 10).n.toNat
def raw20 : OpD := ⟨(x8 b f at0 0).t, (x8 b f at0 1).t, (x8 b f at0 2).n, (x8 b f at0 3).s, (x8 b f at0 4).n, (x8 b f at0 5).s, (x8 b f at0 6).r, (x8 b f at0 7).n, (x8 b f at0 8).f, (x8 b f at0 9).s, (dst8 b f at0 (dn8 b f at0)).1⟩
def get20 : OpD × Int × Bool := if (List.range 11).all (ok8 b f at0) = true ∧ (dst8 b f at0 (dn8 b f at0)).2.2 = true ∧ rightO (raw20 b f at0) = true then (raw20 b f at0, (dst8 b f at0 (dn8 b f at0)).2.1, true) else (zeroO, 0, false)
theorem ask20_kind {i : Nat} (h : i < 11) : ¬ (ask20 i).kind = 4 := by
  have : ∀ i, i < 11 → ¬ (ask20 i).kind = 4 := by decide
  exact this i h
theorem st8_nn {b : List UInt8} {f at0 : Int} (h0 : 0 ≤ at0) : ∀ k, 0 ≤ st8 b f at0 k
  | 0 => h0
  | k + 1 => rd8_nn (st8_nn h0 k)
theorem dst8_nn {b : List UInt8} {f at0 : Int} (h0 : 0 ≤ at0) : ∀ k, 0 ≤ (dst8 b f at0 k).2.1
  | 0 => st8_nn h0 11
  | k + 1 => rd8_nn (dst8_nn h0 k)
theorem dst8_len (b : List UInt8) (f at0 : Int) : ∀ k, (dst8 b f at0 k).1.length = k
  | 0 => rfl
  | k + 1 => by rw [dst8, List.length_append, dst8_len b f at0 k]; rfl
theorem dst8_false {b : List UInt8} {f at0 : Int} {j : Nat} (h : (dst8 b f at0 j).2.2 = false) : ∀ k, (dst8 b f at0 (j + k)).2.2 = false
  | 0 => h
  | k + 1 => by rw [← Nat.add_assoc, dst8, dst8_false h k]; rfl
theorem got8_len (k : Nat) : (got8 b f at0 k).length = k := by simp [got8]
theorem got8_at {k i : Nat} (h : i < k) : ((got8 b f at0 k).map ThingD.cs)[i]? = some [AI (x8 b f at0 i).kind, AI (x8 b f at0 i).n, AS (x8 b f at0 i).s, AB (x8 b f at0 i).f, AI (x8 b f at0 i).t.rep, AI (x8 b f at0 i).t.n, AI (x8 b f at0 i).v.a, AI (x8 b f at0 i).v.b, AI (x8 b f at0 i).v.c, AI (x8 b f at0 i).v.d, AI (x8 b f at0 i).v.e, AI (x8 b f at0 i).v.f, AI (x8 b f at0 i).r.scope, AS (x8 b f at0 i).r.group, AS (x8 b f at0 i).r.name, AI (x8 b f at0 i).most] := by
  unfold got8
  rw [List.getElem?_map, List.getElem?_map, List.getElem?_range h]; rfl
theorem got8_row {g T : Nat} (k : Nat) : TK.mk g (.own T 16 ((got8 b f at0 k).map ThingD.cs ++ [(x8 b f at0 k).cs])) = TK.mk g (.own T 16 ((got8 b f at0 (k + 1)).map ThingD.cs)) := by
  unfold got8
  rw [List.range_succ, List.map_append, List.map_append]; rfl
theorem tags_row8 {g j : Nat} {b : List UInt8} {f at0 : Int} : TK.mk g (owM true 44 2 ((dst8 b f at0 j).1.map TagD.cs ++ [[AI (rd8 b (dst8 b f at0 j).2.1 f (askT 3 0)).1.t.rep, AI (rd8 b (dst8 b f at0 j).2.1 f (askT 3 0)).1.t.n]])) = TK.mk g (owM true 44 2 ((dst8 b f at0 (j + 1)).1.map TagD.cs)) := by
  rw [dst8, List.map_append]; rfl
theorem rget8_k (hb : b.length ≤ 1099511627776) (h0 : 0 ≤ at0) (k : Nat) (hk : k < 11) : AC Try.prog 106 [.sl (byA b), .sc (.int .i64 (st8 b f at0 k)), .sc (.int .i64 f), (asks20[k]'hk).av] (fun r => r = .s (.tu [(x8 b f at0 k).av, AI (st8 b f at0 (k + 1)), AB (ok8 b f at0 k)])) := by
  have e : asks20[k]'hk = ask20 k := by unfold ask20; rw [List.getD_eq_getElem?_getD, List.getElem?_eq_getElem hk]; rfl
  rw [e]
  exact rget8_c b f hb (st8 b f at0 k) (st8_nn h0 k) (ask20 k) (ask20_kind hk)
theorem get20_no {b : List UInt8} {f at0 : Int} (h : ¬ ((List.range 11).all (ok8 b f at0) = true ∧ (dst8 b f at0 (dn8 b f at0)).2.2 = true ∧ rightO (raw20 b f at0) = true)) : get20 b f at0 = (zeroO, 0, false) := if_neg h
set_option maxHeartbeats 16000000 in
theorem roget_c (hb : b.length ≤ 1099511627776) (h0 : 0 ≤ at0) : AC Try.prog 73 [.sl (byA b), .sc (.int .i64 at0), .sc (.int .i64 f)] (fun r => r = .s (.tu [(get20 b f at0).1.av, AI (get20 b f at0).2.1, AB (get20 b f at0).2.2])) := by
  refine AC.of' 131 10 Try.func73 rfl ?_
  change AW _ _ _ _ [TK.mk 0 .off, TK.mk 0 .off, TK.mk 0 .off, TK.mk 0 .off, TK.mk 0 .off, TK.mk 0 .off, TK.mk 0 .off, TK.mk 0 .off, TK.mk 0 .off, TK.mk 0 .off]
  refine AW.seq ?_
  refine AW.region ?_
  refine AL.op rfl (AOpB.op (op_alloc 0 rfl ze_47 rfl ?_))
  refine AL.n ?_
  refine AL.ra ?_
  refine AL.ra ?_
  refine AL.nil ?_
  change AW _ _ _ _ _
  refine AW.seq ?_
  refine AW.region ?_
  refine AL.r (rd_build rfl pl_79 ze_79 rfl rfl) ?_
  refine AL.r (rd_build rfl pl_79 ze_79 rfl rfl) ?_
  refine AL.r (rd_build rfl pl_79 ze_79 rfl rfl) ?_
  refine AL.r (rd_build rfl pl_79 ze_79 rfl rfl) ?_
  refine AL.r (rd_build rfl pl_79 ze_79 rfl rfl) ?_
  refine AL.r (rd_build rfl pl_79 ze_79 rfl rfl) ?_
  refine AL.r (rd_build rfl pl_79 ze_79 rfl rfl) ?_
  refine AL.r (rd_build rfl pl_79 ze_79 rfl rfl) ?_
  refine AL.r (rd_build rfl pl_79 ze_79 rfl rfl) ?_
  refine AL.r (rd_build rfl pl_79 ze_79 rfl rfl) ?_
  refine AL.r (rd_build rfl pl_79 ze_79 rfl rfl) ?_
  refine AL.op rfl (AOpB.op (bs_set rfl ap_158 ze_79 rfl rfl ?_))
  refine AL.n ?_
  refine AL.ra ?_
  refine AL.nil ?_
  change AW _ _ _ _ _
  refine AW.seq ?_
  refine AW.region ?_
  refine AL.op rfl (AOpB.op (bs_own 2 rfl ap_158 ze_79 rfl rfl rfl ?_))
  refine AL.n ?_
  refine AL.ra ?_
  refine AL.nil ?_
  change AW _ _ _ _ _
  refine AW.seq ?_
  refine AW.seq ?_
  refine AW.region ?_
  refine AL.ra ?_
  refine AL.nil ?_
  change AW _ _ _ _ _
  refine AW.block ?_
  refine AW.loopM (ι := Nat × Nat) [7, 8, 12, 13, 14, 33, 34, 35, 36, 37, 38, 39, 40, 41, 42, 43, 44, 45, 46, 47, 48, 49, 50, 51, 52, 53, 54, 55, 56, 57, 58] (fun ⟨k, gL⟩ => [(11, AI (k : Int)), (1, AI (st8 b f at0 k)), (10, .ow 2 gL)]) [3, 4, 5] (fun ⟨k, gL⟩ => [(2, ⟨gL, .own 79 16 ((got8 b f at0 k).map ThingD.cs)⟩)]) (fun ⟨k, gL⟩ => k ≤ 11 ∧ ∀ i, i < k → ok8 b f at0 i = true) (fun ⟨k, gL⟩ => 11 - k) (0, 1) (⟨Nat.zero_le _, fun i hi => absurd hi (by omega)⟩) (by simp only [anys, upds, offs, List.set_cons_zero, List.set_cons_succ]; repeat (first | exact Wk.nil | refine Wk.same ?_ | refine Wk.any ?_)) (by simp only [anys, upds, offs, List.set_cons_zero, List.set_cons_succ]; repeat (first | exact Sk.nil _ | refine Sk.same _ ?_ | refine Sk.scr _ (by decide) ?_ | refine Sk.eq _ (by rfl) ?_)) ?_
  rintro ⟨k, gL⟩ gs hJ
  refine AW.norm (by simp only [anys, upds, offs, List.set_cons_zero, List.set_cons_succ]; rfl) (by (try simp only [anys, upds, offs, List.set_cons_zero, List.set_cons_succ]); (try rfl)) ?_
  obtain ⟨hk, hok⟩ := hJ
  refine AW.seq ?_
  refine AW.seq ?_
  refine AW.region ?_
  refine AL.rm ?_
  refine AL.rm ?_
  refine AL.r (rd_len_sl rfl el_158 rfl) ?_
  refine AL.r (rd_bin rfl rfl rfl (fun _ => rfl)) ?_
  refine AL.nil ?_
  change AW _ _ _ _ _
  refine AW.cd rfl (fun h36 => ?_) (fun h36 => ?_)
  ·skip
   refine AW.skip ?_
   change AW _ _ _ _ _
   refine AW.seq ?_
   refine AW.block ?_
   refine AW.seq ?_
   refine AW.region ?_
   refine AL.rm ?_
   refine AL.rm ?_
   refine AL.rm ?_
   refine AL.rm ?_
   refine AL.rm ?_
   refine AL.r (rd_iaddr_sl rfl el_158 rfl rfl rfl (get_mapA (l := asks20) (f := ThingD.cs) (show k < 11 by omega)) rfl) ?_
   refine AL.r (rd_loadN_ep rfl ag_79 rfl (Nat.le_of_ble_eq_true rfl) rfl) ?_
   refine AL.op rfl (AOpB.op (op_call (rget8_k b f at0 hb h0 k (by omega)) rfl (by kernel_rfl) rfl (none) ?_))
   rintro r rfl
   refine AL.n ?_
   refine AL.rm ?_
   refine AL.r (rd_extract rfl rfl rfl) ?_
   refine AL.r (rd_extract rfl rfl rfl) ?_
   refine AL.r (rd_extract rfl rfl rfl) ?_
   refine AL.op rfl (AOpB.op (op_alloc 3 rfl ze_79 rfl ?_))
   refine AL.n ?_
   refine AL.op rfl (op_store_ rfl rfl rfl rfl rfl sz_79 ?_)
   refine AL.b ?_
   refine AL.ra ?_
   refine AL.ra ?_
   refine AL.nil ?_
   change AW _ _ _ _ _
   refine AW.seq ?_
   refine AW.seq ?_
   refine AW.region ?_
   refine AL.rm ?_
   refine AL.r (rd_un rfl rfl (fun _ => rfl)) ?_
   refine AL.nil ?_
   change AW _ _ _ _ _
   refine AW.cd rfl (fun h52 => ?_) (fun h52 => ?_)
   ·skip
    refine AW.seq ?_
    refine AW.region ?_
    refine AL.r (rd_build rfl pl_47 ze_47 rfl rfl) ?_
    refine AL.op rfl (op_store_ rfl rfl rfl rfl rfl sz_47 ?_)
    refine AL.b ?_
    refine AL.ra ?_
    refine AL.ra ?_
    refine AL.nil ?_
    change AW _ _ _ _ _
    refine AW.ret ?_
    change ResA _ _ _ _ _
    refine res3 rfl (ResV.cells rfl rfl ag_47 (Nat.le_of_ble_eq_true rfl) rfl) rfl (ResV.tmp rfl) rfl (ResV.tmp rfl) rfl ?_
    rw [get20_no (fun h => by have := List.all_eq_true.1 h.1 k (List.mem_range.2 (by omega)); rw [h52] at this; cases this)]; rfl
   ·skip
    refine AW.skip ?_
    change AW _ _ _ _ _
    refine AW.seq ?_
    refine AW.region ?_
    refine AL.rm ?_
    refine AL.r (rd_loadN_bx rfl ag_79 rfl rfl (Nat.le_of_ble_eq_true rfl) rfl) ?_
    refine AL.op rfl (AOpB.op (bs_set rfl ap_158 ze_79 rfl rfl ?_))
    refine AL.n ?_
    refine AL.op rfl (op_append rfl ap_158 rfl rfl (src_s rfl) (by simp only [List.length_map, got8_len, List.length_cons, List.length_nil]; omega) (by simp only [List.length_map, got8_len, List.length_cons, List.length_nil]; omega) ?_)
    refine AL.n ?_
    refine AL.ra ?_
    refine AL.nil ?_
    change AW _ _ _ _ _
    refine AW.region ?_
    refine AL.rm ?_
    refine AL.ra ?_
    refine AL.nil ?_
    change AW _ _ _ _ _
    refine AW.region ?_
    refine AL.rm ?_
    refine AL.r (rd_arith_add rfl rfl rfl (by first | exact IntWalk.i64_in _ (by omega) | rfl)) ?_
    refine AL.ra ?_
    refine AL.nil ?_
    refine ⟨⟨k + 1, gL + 1⟩, ?_, by first | omega | (simp only []; omega), ?_, ?_⟩
    ·exact ⟨by omega, all_next hok (by grind)⟩
    ·simp only [anys, upds, offs, List.set_cons_zero, List.set_cons_succ]; repeat (first | exact Wk.nil | refine Wk.same ?_ | refine Wk.any ?_)
    ·simp only [anys, upds, offs, List.set_cons_zero, List.set_cons_succ]; repeat (first | exact Sk.nil _ | refine Sk.same _ ?_ | refine Sk.scr _ (by decide) ?_ | refine Sk.eq _ (by first | rfl | exact got8_row b f at0 k) ?_)
  ·skip
   refine AW.exit ?_
   change AW _ _ _ _ _
   refine AW.seq ?_
   obtain rfl : k = 11 := (by omega)
   obtain ⟨hn1, hn2⟩ := rd8_count (hok 10 (by omega))
   have hx10 : (x8 b f at0 10).n = (rd8 b (st8 b f at0 10) f (askT 6 60)).1.n := rfl
   have hdn : ((dn8 b f at0 : Nat) : Int) = (x8 b f at0 10).n := Int.toNat_of_nonneg hn1
   refine AW.settle 10 rfl rfl (by first | rfl | exact cont_owM _ _ _ _) ?_
   refine AW.norm (by simp only [anys, upds, offs, List.set_cons_zero, List.set_cons_succ]; rfl) (by (try simp only [anys, upds, offs, List.set_cons_zero, List.set_cons_succ]); (try rfl)) ?_
   apply AW.drawS (by kernel_rfl)
   ·skip
    refine ADA.r 0 rfl (ARdP.a (rdP_move rfl rfl)) rfl ?_
    refine ADA.r 1 rfl (ARdP.a (rdP_iaddr_sl (n := 0) rfl el_158 rfl rfl rfl (got8_at b f at0 (by omega)) rfl)) rfl ?_
    refine ADA.r 2 rfl (ARdP.a (rdP_faddr_ep rfl fo_79_4 rfl)) rfl ?_
    refine ADA.r 3 rfl (rdA_loadN_ep rfl ag_44 rfl (Nat.le_of_ble_eq_true rfl) rfl) rfl ?_
    refine ADA.r 4 rfl (ARdP.a (rdP_move rfl rfl)) rfl ?_
    refine ADA.r 5 rfl (ARdP.a (rdP_iaddr_sl (n := 1) rfl el_158 rfl rfl rfl (got8_at b f at0 (by omega)) rfl)) rfl ?_
    refine ADA.r 6 rfl (ARdP.a (rdP_faddr_ep rfl fo_79_4 rfl)) rfl ?_
    refine ADA.r 7 rfl (rdA_loadN_ep rfl ag_44 rfl (Nat.le_of_ble_eq_true rfl) rfl) rfl ?_
    refine ADA.r 8 rfl (ARdP.a (rdP_move rfl rfl)) rfl ?_
    refine ADA.r 9 rfl (ARdP.a (rdP_iaddr_sl (n := 2) rfl el_158 rfl rfl rfl (got8_at b f at0 (by omega)) rfl)) rfl ?_
    refine ADA.r 10 rfl (ARdP.a (rdP_faddr_ep rfl fo_79_1 rfl)) rfl ?_
    refine ADA.r 11 rfl (rdA_load_ep rfl ag_2 rfl rfl) rfl ?_
    refine ADA.r 12 rfl (ARdP.a (rdP_move rfl rfl)) rfl ?_
    refine ADA.r 13 rfl (ARdP.a (rdP_iaddr_sl (n := 3) rfl el_158 rfl rfl rfl (got8_at b f at0 (by omega)) rfl)) rfl ?_
    refine ADA.r 14 rfl (ARdP.a (rdP_faddr_ep rfl fo_79_2 rfl)) rfl ?_
    refine ADA.r 15 rfl (rdA_load_ep rfl ag_9 rfl rfl) rfl ?_
    refine ADA.r 16 rfl (ARdP.a (rdP_move rfl rfl)) rfl ?_
    refine ADA.r 17 rfl (ARdP.a (rdP_iaddr_sl (n := 4) rfl el_158 rfl rfl rfl (got8_at b f at0 (by omega)) rfl)) rfl ?_
    refine ADA.r 18 rfl (ARdP.a (rdP_faddr_ep rfl fo_79_1 rfl)) rfl ?_
    refine ADA.r 19 rfl (rdA_load_ep rfl ag_2 rfl rfl) rfl ?_
    refine ADA.r 20 rfl (ARdP.a (rdP_move rfl rfl)) rfl ?_
    refine ADA.r 21 rfl (ARdP.a (rdP_iaddr_sl (n := 5) rfl el_158 rfl rfl rfl (got8_at b f at0 (by omega)) rfl)) rfl ?_
    refine ADA.r 22 rfl (ARdP.a (rdP_faddr_ep rfl fo_79_2 rfl)) rfl ?_
    refine ADA.r 23 rfl (rdA_load_ep rfl ag_9 rfl rfl) rfl ?_
    refine ADA.r 24 rfl (ARdP.a (rdP_move rfl rfl)) rfl ?_
    refine ADA.r 25 rfl (ARdP.a (rdP_iaddr_sl (n := 6) rfl el_158 rfl rfl rfl (got8_at b f at0 (by omega)) rfl)) rfl ?_
    refine ADA.r 26 rfl (ARdP.a (rdP_faddr_ep rfl fo_79_6 rfl)) rfl ?_
    refine ADA.r 27 rfl (rdA_loadN_ep rfl ag_27 rfl (Nat.le_of_ble_eq_true rfl) rfl) rfl ?_
    refine ADA.r 28 rfl (ARdP.a (rdP_move rfl rfl)) rfl ?_
    refine ADA.r 29 rfl (ARdP.a (rdP_iaddr_sl (n := 7) rfl el_158 rfl rfl rfl (got8_at b f at0 (by omega)) rfl)) rfl ?_
    refine ADA.r 30 rfl (ARdP.a (rdP_faddr_ep rfl fo_79_1 rfl)) rfl ?_
    refine ADA.r 31 rfl (rdA_load_ep rfl ag_2 rfl rfl) rfl ?_
    refine ADA.r 32 rfl (ARdP.a (rdP_move rfl rfl)) rfl ?_
    refine ADA.r 33 rfl (ARdP.a (rdP_iaddr_sl (n := 8) rfl el_158 rfl rfl rfl (got8_at b f at0 (by omega)) rfl)) rfl ?_
    refine ADA.r 34 rfl (ARdP.a (rdP_faddr_ep rfl fo_79_3 rfl)) rfl ?_
    refine ADA.r 35 rfl (rdA_load_ep rfl ag_4 rfl rfl) rfl ?_
    refine ADA.r 36 rfl (ARdP.a (rdP_move rfl rfl)) rfl ?_
    refine ADA.r 37 rfl (ARdP.a (rdP_iaddr_sl (n := 9) rfl el_158 rfl rfl rfl (got8_at b f at0 (by omega)) rfl)) rfl ?_
    refine ADA.r 38 rfl (ARdP.a (rdP_faddr_ep rfl fo_79_2 rfl)) rfl ?_
    refine ADA.r 39 rfl (rdA_load_ep rfl ag_9 rfl rfl) rfl ?_
    refine ADA.r 40 rfl (ARdP.a (rdP_build rfl pl_47 ze_47 rfl rfl)) rfl ?_
    refine ADA.b ?_
    refine ADB.mv 41 rfl (AOpB.op (op_alloc 6 rfl ze_47 rfl ?_))
    refine ADB.n ?_
    refine ADB.mv 42 rfl (op_store_ rfl rfl rfl rfl rfl sz_47 ?_)
    refine ADB.n ?_
    refine ADB.done (by kernel_rfl) ?_
    exact ⟨rfl, rfl⟩
   skip
   change AW _ _ _ _ _
   refine AW.seq ?_
   refine AW.seq ?_
   refine AW.region ?_
   refine AL.nilbx 6 14 9 44 2 rfl rfl rfl (by decide) ?_
   refine AL.no ?_
   refine AL.ra ?_
   refine AL.nil ?_
   change AW _ _ _ _ _
   refine AW.block ?_
   refine AW.loopM (ι := Nat × Nat) [7, 8, 17, 18, 19, 100, 101, 102, 103, 104, 105, 106, 107, 108, 109, 110, 111, 112, 113, 114, 115, 116, 117, 118, 119, 120, 121, 122, 123, 124, 125, 126, 127] (fun ⟨j, g2⟩ => [(16, AI (j : Int)), (1, AI (dst8 b f at0 j).2.1)]) [7, 8] (fun ⟨j, g2⟩ => [(9, ⟨g2, owM true 44 2 ((dst8 b f at0 j).1.map TagD.cs)⟩), (6, ⟨1, .box 47 [AI (x8 b f at0 0).t.rep, AI (x8 b f at0 0).t.n, AI (x8 b f at0 1).t.rep, AI (x8 b f at0 1).t.n, AI (x8 b f at0 2).n, AS (x8 b f at0 3).s, AI (x8 b f at0 4).n, AS (x8 b f at0 5).s, AI (x8 b f at0 6).r.scope, AS (x8 b f at0 6).r.group, AS (x8 b f at0 6).r.name, AI (x8 b f at0 7).n, AB (x8 b f at0 8).f, AS (x8 b f at0 9).s, .ow 9 g2]⟩)]) (fun ⟨j, g2⟩ => j ≤ dn8 b f at0 ∧ (dst8 b f at0 j).2.2 = true) (fun ⟨j, g2⟩ => dn8 b f at0 - j) (0, 1) (⟨Nat.zero_le _, rfl⟩) (by simp only [anys, upds, offs, List.set_cons_zero, List.set_cons_succ]; repeat (first | exact Wk.nil | refine Wk.same ?_ | refine Wk.any ?_)) (by simp only [anys, upds, offs, List.set_cons_zero, List.set_cons_succ]; repeat (first | exact Sk.nil _ | refine Sk.same _ ?_ | refine Sk.scr _ (by decide) ?_ | refine Sk.eq _ (by rfl) ?_)) ?_
   rintro ⟨j, g2⟩ gs hJ
   refine AW.norm (by simp only [anys, upds, offs, List.set_cons_zero, List.set_cons_succ]; rfl) (by (try simp only [anys, upds, offs, List.set_cons_zero, List.set_cons_succ]); (try rfl)) ?_
   obtain ⟨hj, hjo⟩ := hJ
   refine AW.seq ?_
   refine AW.seq ?_
   refine AW.region ?_
   refine AL.rm ?_
   refine AL.rm ?_
   refine AL.r (rd_iaddr_sl (n := 10) rfl el_158 rfl rfl rfl (got8_at b f at0 (by omega)) rfl) ?_
   refine AL.r (rd_faddr_ep rfl fo_79_1 rfl) ?_
   refine AL.r (rd_load_ep rfl ag_2 rfl rfl) ?_
   refine AL.r (rd_bin rfl rfl rfl (fun _ => rfl)) ?_
   refine AL.nil ?_
   change AW _ _ _ _ _
   refine AW.cd rfl (fun h105 => ?_) (fun h105 => ?_)
   ·skip
    refine AW.skip ?_
    change AW _ _ _ _ _
    refine AW.seq ?_
    refine AW.block ?_
    refine AW.seq ?_
    refine AW.region ?_
    refine AL.rm ?_
    refine AL.rm ?_
    refine AL.rm ?_
    refine AL.r (rd_build rfl pl_79 ze_79 rfl rfl) ?_
    refine AL.op rfl (AOpB.op (op_call (rget8_c b f hb (dst8 b f at0 j).2.1 (dst8_nn h0 j) (askT 3 0) (by decide)) rfl (by kernel_rfl) rfl (none) ?_))
    rintro r rfl
    refine AL.n ?_
    refine AL.rm ?_
    refine AL.r (rd_extract rfl rfl rfl) ?_
    refine AL.r (rd_extract rfl rfl rfl) ?_
    refine AL.r (rd_extract rfl rfl rfl) ?_
    refine AL.op rfl (AOpB.op (op_alloc 7 rfl ze_79 rfl ?_))
    refine AL.n ?_
    refine AL.op rfl (op_store_ rfl rfl rfl rfl rfl sz_79 ?_)
    refine AL.b ?_
    refine AL.ra ?_
    refine AL.ra ?_
    refine AL.nil ?_
    change AW _ _ _ _ _
    refine AW.seq ?_
    refine AW.seq ?_
    refine AW.region ?_
    refine AL.rm ?_
    refine AL.r (rd_un rfl rfl (fun _ => rfl)) ?_
    refine AL.nil ?_
    change AW _ _ _ _ _
    refine AW.cd rfl (fun h118 => ?_) (fun h118 => ?_)
    ·skip
     refine AW.seq ?_
     refine AW.region ?_
     refine AL.r (rd_build rfl pl_47 ze_47 rfl rfl) ?_
     refine AL.op rfl (op_store_ rfl rfl rfl rfl rfl sz_47 ?_)
     refine AL.b ?_
     refine AL.ra ?_
     refine AL.ra ?_
     refine AL.nil ?_
     change AW _ _ _ _ _
     refine AW.ret ?_
     change ResA _ _ _ _ _
     refine res3 rfl (ResV.cells rfl rfl ag_47 (Nat.le_of_ble_eq_true rfl) rfl) rfl (ResV.tmp rfl) rfl (ResV.tmp rfl) rfl ?_
     rw [get20_no (fun h => by have h2 := h.2.1; have := dst8_false (b := b) (f := f) (at0 := at0) (j := j + 1) (by rw [dst8]; simp_all) (dn8 b f at0 - (j + 1)); rw [show j + 1 + (dn8 b f at0 - (j + 1)) = dn8 b f at0 by omega] at this; rw [this] at h2; cases h2)]; rfl
    ·skip
     refine AW.skip ?_
     change AW _ _ _ _ _
     refine AW.seq ?_
     refine AW.region ?_
     refine AL.r (rd_faddr_bx rfl fo_47_10 rfl rfl ⟨_, _, rfl⟩) ?_
     refine AL.r (rd_load_bx rfl ag_45 rfl rfl rfl) ?_
     refine AL.r (rd_faddr_bx rfl fo_79_4 rfl rfl ⟨_, _, rfl⟩) ?_
     refine AL.r (rd_loadN_bx rfl ag_44 rfl rfl (Nat.le_of_ble_eq_true rfl) rfl) ?_
     refine AL.op rfl (AOpB.op (bs_set rfl ap_45 ze_44 rfl rfl ?_))
     refine AL.n ?_
     refine AL.op rfl (op_appendM rfl ap_45 rfl rfl (src_s rfl) (by simp only [List.length_map, dst8_len, List.length_cons, List.length_nil]; omega) (by simp only [List.length_map, dst8_len, List.length_cons, List.length_nil]; omega) ?_)
     refine AL.n ?_
     refine AL.r (rd_faddr_bx rfl fo_47_10 rfl rfl ⟨_, _, rfl⟩) ?_
     refine AL.op rfl (op_storo rfl rfl rfl rfl rfl sz_45 ?_)
     refine AL.b ?_
     refine AL.nil ?_
     change AW _ _ _ _ _
     refine AW.region ?_
     refine AL.rm ?_
     refine AL.ra ?_
     refine AL.nil ?_
     change AW _ _ _ _ _
     refine AW.region ?_
     refine AL.rm ?_
     refine AL.r (rd_arith_add rfl rfl rfl (by first | exact IntWalk.i64_in _ (by omega) | rfl)) ?_
     refine AL.ra ?_
     refine AL.nil ?_
     refine ⟨⟨j + 1, g2 + 1⟩, ?_, by first | omega | (simp only []; omega), ?_, ?_⟩
     ·exact ⟨by omega, by rw [dst8, hjo]; simpa using h118⟩
     ·simp only [anys, upds, offs, List.set_cons_zero, List.set_cons_succ]; repeat (first | exact Wk.nil | refine Wk.same ?_ | refine Wk.any ?_)
     ·simp only [anys, upds, offs, List.set_cons_zero, List.set_cons_succ]; repeat (first | exact Sk.nil _ | refine Sk.same _ ?_ | refine Sk.scr _ (by decide) ?_ | refine Sk.eq _ (by first | rfl | exact tags_row8) ?_)
   ·skip
    refine AW.exit ?_
    change AW _ _ _ _ _
    refine AW.seq ?_
    refine AW.seq ?_
    refine AW.region ?_
    obtain rfl : j = dn8 b f at0 := (by omega)
    refine AL.settlebx 6 14 rfl rfl rfl (by first | rfl | exact cont_owM _ _ _ _) ?_
    refine AL.no ?_
    refine AL.r (rd_loadN_bx rfl ag_47 rfl rfl (Nat.le_of_ble_eq_true rfl) rfl) ?_
    refine AL.op rfl (AOpB.op (op_call (oright_r (raw20 b f at0)) rfl (by kernel_rfl) rfl (none) ?_))
    rintro r rfl
    refine AL.n ?_
    refine AL.r (rd_un rfl rfl (fun _ => rfl)) ?_
    refine AL.nil ?_
    change AW _ _ _ _ _
    refine AW.cd rfl (fun h130 => ?_) (fun h130 => ?_)
    ·skip
     refine AW.seq ?_
     refine AW.region ?_
     refine AL.r (rd_build rfl pl_47 ze_47 rfl rfl) ?_
     refine AL.op rfl (op_store_ rfl rfl rfl rfl rfl sz_47 ?_)
     refine AL.b ?_
     refine AL.ra ?_
     refine AL.ra ?_
     refine AL.nil ?_
     change AW _ _ _ _ _
     refine AW.ret ?_
     change ResA _ _ _ _ _
     refine res3 rfl (ResV.cells rfl rfl ag_47 (Nat.le_of_ble_eq_true rfl) rfl) rfl (ResV.tmp rfl) rfl (ResV.tmp rfl) rfl ?_
     rw [get20_no (fun h => by have := h.2.2; simp_all)]; rfl
    ·skip
     refine AW.skip ?_
     change AW _ _ _ _ _
     refine AW.seq ?_
     refine AW.region ?_
     refine AL.r (rd_loadN_bx rfl ag_47 rfl rfl (Nat.le_of_ble_eq_true rfl) rfl) ?_
     refine AL.rm ?_
     refine AL.op rfl (op_store_ rfl rfl rfl rfl rfl sz_47 ?_)
     refine AL.b ?_
     refine AL.ra ?_
     refine AL.ra ?_
     refine AL.nil ?_
     change AW _ _ _ _ _
     refine AW.ret ?_
     change ResA _ _ _ _ _
     refine res3 rfl (ResV.cells rfl rfl ag_47 (Nat.le_of_ble_eq_true rfl) rfl) rfl (ResV.tmp rfl) rfl (ResV.tmp rfl) rfl ?_
     rw [get20, if_pos ⟨List.all_eq_true.2 fun i hi => hok i (List.mem_range.1 hi), hjo, by assumption⟩]; rfl
end
end Go.Proofs.Ytfjnkhanndkpfaa
