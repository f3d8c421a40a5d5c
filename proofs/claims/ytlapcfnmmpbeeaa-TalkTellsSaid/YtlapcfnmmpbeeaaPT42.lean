/- A part of a proof. -/
import Derived.Test.YtlapcfnmmpbeeaaPT41
set_option linter.unusedSimpArgs false
set_option linter.unusedVariables false
namespace Go.Proofs.Ytlapcfnmmpbeeaa
set_option maxRecDepth 100000
open Go.RowKit
theorem rbyte_c (c : Nat) (hc : c < 256) : AC Try.prog 11 [.sc (.int .u8 (c : Int))] (fun r => r = .s (.sc (.int .u32 (byteN c : Nat)))) := by
  refine AC.of' 19 0 Try.func11 rfl ?_; change AW _ _ _ _ []; refine AW.g (AL.ra ?_); refine AL.nil (AW.g (AL.rm ?_)); refine AL.r (rd_conv_int rfl iss_5 ik_29 rfl (wrap_u32 _ (by omega))) ?_; refine AL.ra ?_; refine AL.nil (AW.seq (AW.g (AL.ra ?_))); refine AL.nil (AW.block (AW.loopM (ι := Nat) [7, 8, 9, 10, 11, 12, 13, 14, 15, 16, 17, 18] (fun k => [(4, .sc (.int .i64 (k : Int))), (3, .sc (.int .u32 ((halves k c : Nat) : Int)))]) [] (fun k => []) (fun k => k ≤ 8) (fun k => 8 - k) 0 (Nat.zero_le _) wk sk ?_)); rintro k gs hJ; refine AW.nm ?_
  have hS := halves_lt k (n := c) (by omega)
  refine AW.seq (AW.g (AL.rm ?_)); refine AL.r qb ?_; refine AL.nil (AW.cd rfl (fun h8 => ?_) (fun h8 => ?_))
  ·refine AW.skip (AW.seq (AW.block (AW.g (AL.rm ?_)))); refine AL.r (rd_rem (c := 2) rfl rfl rfl rfl rfl (by omega)) ?_; refine AL.r qb ?_; refine AL.nil (AW.cd rfl (fun h13 => ?_) (fun h13 => ?_))
   ·refine AW.region (AL.rm ?_); refine AL.r (rd_quo (c := 2) rfl rfl rfl rfl rfl (by omega) (wrap_u32 _ (by omega))) ?_; refine AL.r (rd_xor rfl rfl rfl (u32_xor_nat _ 3988292384 (by omega) (by omega))) ?_; refine AL.ra ?_; refine AL.nil (AW.region ?_)
    first | rw [show halves k c / 2 ^^^ 3988292384 = halves (k + 1) c from by rw [halves_succ', half, if_pos (by omega)]] | rw [show halves k c / 2 = halves (k + 1) c from by rw [halves_succ', half, if_neg (by omega)]]
    refine AL.rm ?_; refine AL.r qA ?_; refine AL.ra ?_; refine AL.nil ?_; refine ⟨k + 1, ?_, by first | omega | (simp only []; omega), ?_, ?_⟩
    ·show k + 1 ≤ 8; omega
    ·exact wk
    exact sk
   refine AW.region (AL.rm ?_); refine AL.r (rd_quo (c := 2) rfl rfl rfl rfl rfl (by omega) (wrap_u32 _ (by omega))) ?_; refine AL.ra ?_; refine AL.nil (AW.region ?_)
   first | rw [show halves k c / 2 ^^^ 3988292384 = halves (k + 1) c from by rw [halves_succ', half, if_pos (by omega)]] | rw [show halves k c / 2 = halves (k + 1) c from by rw [halves_succ', half, if_neg (by omega)]]
   refine AL.rm ?_; refine AL.r qA ?_; refine AL.ra ?_; refine AL.nil ?_; refine ⟨k + 1, ?_, by first | omega | (simp only []; omega), ?_, ?_⟩
   ·show k + 1 ≤ 8; omega
   ·exact wk
   exact sk
  refine AW.exit ?_; change AW _ _ _ _ _; refine AW.seq ?_; refine AW.region ?_; refine AL.rm ?_; refine AL.ra ?_; refine AL.nil ?_; change AW _ _ _ _ _; refine AW.ret ?_; change ResA _ _ _ _ _; refine r1t ?_; rw [show k = 8 by omega]; rfl
theorem res1tab {P : Program} {fn : Func} {R : RS → Prop} {t : List AV} {st : List TK} {a T k g bt : Nat} {f : Nat → Nat} (hr : fn.results = #[.cell a T]) (h : evA t (.tmp a) = .bx k g 0) (hk : st[k]? = some ⟨g, .box bt (tabA f)⟩) (hT : agN P T = some (some 256)) (h' : R (.s (.sc (tabV f)))) : ResA P fn R t st := fun F ρ w0 w a' h0 hs hm => by
  obtain ⟨v, g1, g2⟩ := (ResV.cells (P := P) (zs := tabA f) h hk hT (by rw [tabA_len]; omega) (by rw [List.drop_zero, List.take_of_length_le (by rw [tabA_len]; omega)])).run hs hm
  refine ⟨v, .s (.sc (tabV f)), ?_, by rw [g2.tab]; exact RepS.sc _, h'⟩; rw [res_eq, hr]; simp [Sem.run_bind, g1]
def madeT (k : Nat) : Nat → Nat := fun i => if i < k then byteN i else 0
theorem made_step (k j : Nat) : madeT (k + 1) j = if j = k then madeT (k + 1) k else madeT k j := by
  unfold madeT
  by_cases e : j = k
  · subst e; simp
  rw [if_neg e]
  by_cases e2 : j < k
  · rw [if_pos e2, if_pos (by omega)]
  rw [if_neg e2, if_neg (by omega)]
theorem made_c : AC Try.prog 6 [] (fun r => r = .s (.sc (tabV byteN))) := by
  refine AC.of' 14 2 Try.func6 rfl ?_; change AW _ _ _ _ [TK.mk 0 .off, TK.mk 0 .off]; refine AW.g (AL.oq (AOpB.op (op_taballoc 0 rfl rfl ?_))); refine AL.no ?_; refine AL.nil (AW.g (AL.r (rd_tabzero rfl) ?_)); refine AL.oq (AOpB.op (op_taballoc 1 rfl rfl ?_)); refine AL.no ?_; refine AL.oq (op_tabstore rfl rfl rfl (tabA_len _) rfl sz_Table ?_); refine AL.no ?_; refine AL.nil (AW.seq (AW.g (AL.ra ?_))); refine AL.nil (AW.block (AW.loopM (ι := Nat) [4, 5, 6, 7, 8, 9, 10, 11, 12] (fun k => [(2, .sc (.int .i64 (k : Int)))]) [] (fun k => [(1, ⟨1, .box 33 (tabA (madeT k))⟩)]) (fun k => k ≤ 256) (fun k => 256 - k) 0 (Nat.zero_le _) wk (by simp only [anys, upds, offs, List.set_cons_zero, List.set_cons_succ]; repeat (first | exact Sk.nil _ | refine Sk.same _ ?_ | refine Sk.scr _ (by decide) ?_ | refine Sk.eq _ (by rfl) ?_)) ?_))
  rintro k gs hJ; refine AW.nm ?_; refine AW.seq (AW.g (AL.rm ?_)); refine AL.r qb ?_; refine AL.nil (AW.cd rfl (fun h5 => ?_) (fun h5 => ?_))
  ·refine AW.skip ?_; change AW _ _ _ _ _; refine AW.seq ?_; refine AW.block ?_; refine AW.region ?_; (iterate 2 refine AL.rm ?_); refine AL.r (rd_conv_int rfl iss_3 ik_5 rfl ((wrap_u8 k).trans (by rw [Nat.mod_eq_of_lt (by omega)]))) ?_; refine AL.cl (rbyte_c k (by omega)) ?_; refine AL.no ?_; refine AL.r (rd_iaddr_bx (i := k) rfl ar_33 rfl rfl rfl rfl (by omega)) ?_; refine AL.oq (op_store rfl rfl rfl rfl rfl rfl sz_29 (by simp only [List.length_cons, List.length_nil, tabA_len]; omega) ?_); refine AL.no ?_; refine AL.nil ?_; change AW _ _ _ _ _; refine AW.region ?_; refine AL.rm ?_; refine AL.r qA ?_; refine AL.ra ?_; refine AL.nil ?_; refine ⟨k + 1, ?_, by first | omega | (simp only []; omega), ?_, ?_⟩
   ·show k + 1 ≤ 256; omega
   ·exact wk
   simp only [anys, upds, offs, List.set_cons_zero, List.set_cons_succ]; repeat (first | exact Sk.nil _ | refine Sk.same _ ?_ | refine Sk.scr _ (by decide) ?_ | refine Sk.eq _ (by rw [show byteN k = madeT (k + 1) k from (if_pos (by omega)).symm, tabA_set (u := madeT (k + 1)) (by omega) (fun j hj => made_step k j)]) ?_)
  refine AW.exit ?_; change AW _ _ _ _ _; refine AW.seq ?_; refine AW.region ?_; refine AL.r (rd_tab0 rfl ag_33 rfl rfl) ?_; refine AL.oq (op_tabstore rfl rfl rfl (tabA_len _) rfl sz_Table ?_); refine AL.no ?_; refine AL.nil ?_; change AW _ _ _ _ _; refine AW.ret ?_; change ResA _ _ _ _ _; refine res1tab rfl rfl rfl ag_33 ?_; rw [show tabV (madeT k) = tabV byteN from by unfold tabV; congr 2; unfold tabL; apply List.map_congr_left; intro i hi; rw [madeT, if_pos (by have := List.mem_range.1 hi; omega)]]
end Go.Proofs.Ytlapcfnmmpbeeaa
