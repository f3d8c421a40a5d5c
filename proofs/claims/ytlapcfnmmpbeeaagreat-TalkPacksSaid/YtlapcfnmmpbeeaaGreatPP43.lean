/- Texts of the proof of talkPacks_holds, put together by a program: Mad FrmR. -/
import Derived.Test.YtlapcfnmmpbeeaaGreatPP42
set_option linter.unusedSimpArgs false
set_option linter.unusedVariables false
namespace Go.Proofs.YtlapcfnmmpbeeaaGreat
set_option maxRecDepth 100000
open Go.RowKit
theorem rbyte_c (c : Nat) (hc : c < 256) : AC Tryz.prog 68 [.sc (.int .u8 (c : Int))] (fun r => r = .s (.sc (.int .u32 (byteN c : Nat)))) := by
  refine AC.of' 19 0 Tryz.func68 rfl ?_; change AW _ _ _ _ []; refine AW.seq (AW.region (AL.ra ?_)); refine AL.nil (AW.seq (AW.region (AL.rm ?_))); refine AL.r (rd_conv_int rfl iss_5 ik_49 rfl (wrap_u32 _ (by omega))) ?_; refine AL.ra ?_; refine AL.nil (AW.seq (AW.seq (AW.region (AL.ra ?_)))); refine AL.nil (AW.block (AW.loopM (ι := Nat) [7, 8, 9, 10, 11, 12, 13, 14, 15, 16, 17, 18] (fun k => [(4, .sc (.int .i64 (k : Int))), (3, .sc (.int .u32 ((halves k c : Nat) : Int)))]) [] (fun k => []) (fun k => k ≤ 8) (fun k => 8 - k) 0 (Nat.zero_le _) wk sk ?_))
  rintro k gs hJ; refine AW.nm ?_
  have hS := halves_lt k (n := c) (by omega)
  refine AW.seq (AW.seq (AW.region (AL.rm ?_))); refine AL.r qb ?_; refine AL.nil (AW.cd rfl (fun h8 => ?_) (fun h8 => ?_))
  ·refine AW.skip (AW.seq (AW.block (AW.seq (AW.region (AL.rm ?_))))); refine AL.r (rd_rem (c := 2) rfl rfl rfl rfl rfl (by omega)) ?_; refine AL.r qb ?_; refine AL.nil (AW.cd rfl (fun h13 => ?_) (fun h13 => ?_))
   ·refine AW.region (AL.rm ?_); refine AL.r (rd_quo (c := 2) rfl rfl rfl rfl rfl (by omega) (wrap_u32 _ (by omega))) ?_; refine AL.r (rd_xor rfl rfl rfl (u32_xor_nat _ 3988292384 (by omega) (by omega))) ?_; refine AL.ra ?_; refine AL.nil (AW.region ?_)
    first | rw [show halves k c / 2 ^^^ 3988292384 = halves (k + 1) c from by rw [halves_succ', half, if_pos (by omega)]] | rw [show halves k c / 2 = halves (k + 1) c from by rw [halves_succ', half, if_neg (by omega)]]
    refine AL.rm ?_; refine AL.r (rd_arith_add rfl rfl rfl (by first | exact IntWalk.i64_in _ (by omega) | rfl)) ?_; refine AL.ra ?_; refine AL.nil ?_; refine ⟨k + 1, ?_, by first | omega | (simp only []; omega), ?_, ?_⟩
    ·show k + 1 ≤ 8; omega
    ·exact wk
    ·exact sk
   ·refine AW.region (AL.rm ?_); refine AL.r (rd_quo (c := 2) rfl rfl rfl rfl rfl (by omega) (wrap_u32 _ (by omega))) ?_; refine AL.ra ?_; refine AL.nil (AW.region ?_)
    first | rw [show halves k c / 2 ^^^ 3988292384 = halves (k + 1) c from by rw [halves_succ', half, if_pos (by omega)]] | rw [show halves k c / 2 = halves (k + 1) c from by rw [halves_succ', half, if_neg (by omega)]]
    refine AL.rm ?_; refine AL.r (rd_arith_add rfl rfl rfl (by first | exact IntWalk.i64_in _ (by omega) | rfl)) ?_; refine AL.ra ?_; refine AL.nil ?_; refine ⟨k + 1, ?_, by first | omega | (simp only []; omega), ?_, ?_⟩
    ·show k + 1 ≤ 8; omega
    ·exact wk
    ·exact sk
  ·refine AW.exit ?_; change AW _ _ _ _ _; refine AW.seq ?_; refine AW.region ?_; refine AL.rm ?_; refine AL.ra ?_; refine AL.nil ?_; change AW _ _ _ _ _; refine AW.ret ?_; change ResA _ _ _ _ _; refine r1t ?_; rw [show k = 8 by omega]; rfl
theorem res1tab {P : Program} {fn : Func} {R : RS → Prop} {t : List AV} {st : List TK} {a T k g bt : Nat} {f : Nat → Nat} (hr : fn.results = #[.cell a T]) (h : evA t (.tmp a) = .bx k g 0) (hk : st[k]? = some ⟨g, .box bt (tabA f)⟩) (hT : agN P T = some (some 256)) (h' : R (.s (.sc (tabV f)))) : ResA P fn R t st := fun F ρ w0 w a' h0 hs hm => by
  obtain ⟨v, g1, g2⟩ := (ResV.cells (P := P) (zs := tabA f) h hk hT (by rw [tabA_len]; omega) (by rw [List.drop_zero, List.take_of_length_le (by rw [tabA_len]; omega)])).run hs hm
  refine ⟨v, .s (.sc (tabV f)), ?_, by rw [g2.tab]; exact RepS.sc _, h'⟩; rw [res_eq, hr]; simp [Sem.run_bind, g1]
def madeT (k : Nat) : Nat → Nat := fun i => if i < k then byteN i else 0
theorem made_step (k j : Nat) : madeT (k + 1) j = if j = k then madeT (k + 1) k else madeT k j := by
  unfold madeT
  by_cases e : j = k
  · subst e; simp
  · rw [if_neg e]
    by_cases e2 : j < k
    · rw [if_pos e2, if_pos (by omega)]
    · rw [if_neg e2, if_neg (by omega)]
theorem made_c : AC Tryz.prog 17 [] (fun r => r = .s (.sc (tabV byteN))) := by
  refine AC.of' 14 2 Tryz.func17 rfl ?_; change AW _ _ _ _ [TK.mk 0 .off, TK.mk 0 .off]; refine AW.seq (AW.region (AL.op rfl (AOpB.op (op_taballoc 0 rfl rfl ?_)))); refine AL.no ?_; refine AL.nil (AW.seq (AW.region (AL.r (rd_tabzero rfl) ?_))); refine AL.op rfl (AOpB.op (op_taballoc 1 rfl rfl ?_)); refine AL.no ?_; refine AL.op rfl (op_tabstore rfl rfl rfl (tabA_len _) rfl sz_Table ?_); refine AL.no ?_; refine AL.nil (AW.seq (AW.seq (AW.region (AL.ra ?_)))); refine AL.nil (AW.block (AW.loopM (ι := Nat) [4, 5, 6, 7, 8, 9, 10, 11, 12] (fun k => [(2, .sc (.int .i64 (k : Int)))]) [] (fun k => [(1, ⟨1, .box 51 (tabA (madeT k))⟩)]) (fun k => k ≤ 256) (fun k => 256 - k) 0 (Nat.zero_le _) wk (by simp only [anys, upds, offs, List.set_cons_zero, List.set_cons_succ]; repeat (first | exact Sk.nil _ | refine Sk.same _ ?_ | refine Sk.scr _ (by decide) ?_ | refine Sk.eq _ (by rfl) ?_)) ?_))
  rintro k gs hJ; refine AW.nm ?_; refine AW.seq (AW.seq (AW.region (AL.rm ?_))); refine AL.r qb ?_; refine AL.nil (AW.cd rfl (fun h5 => ?_) (fun h5 => ?_))
  ·refine AW.skip ?_; change AW _ _ _ _ _; refine AW.seq ?_; refine AW.block ?_; refine AW.region ?_; (iterate 2 refine AL.rm ?_); refine AL.r (rd_conv_int rfl iss_3 ik_5 rfl ((wrap_u8 k).trans (by rw [Nat.mod_eq_of_lt (by omega)]))) ?_; refine AL.op rfl (AOpB.op (op_call (rbyte_c k (by omega)) rfl (by kernel_rfl) rfl (none) ?_)); rintro r rfl; refine AL.no ?_; refine AL.r (rd_iaddr_bx (i := k) rfl ar_51 rfl rfl rfl rfl (by omega)) ?_; refine AL.op rfl (op_store rfl rfl rfl rfl rfl rfl sz_49 (by simp only [List.length_cons, List.length_nil, tabA_len]; omega) ?_); refine AL.no ?_; refine AL.nil ?_; change AW _ _ _ _ _; refine AW.region ?_; refine AL.rm ?_; refine AL.r (rd_arith_add rfl rfl rfl (by first | exact IntWalk.i64_in _ (by omega) | rfl)) ?_; refine AL.ra ?_; refine AL.nil ?_; refine ⟨k + 1, ?_, by first | omega | (simp only []; omega), ?_, ?_⟩
   ·show k + 1 ≤ 256; omega
   ·exact wk
   ·simp only [anys, upds, offs, List.set_cons_zero, List.set_cons_succ]; repeat (first | exact Sk.nil _ | refine Sk.same _ ?_ | refine Sk.scr _ (by decide) ?_ | refine Sk.eq _ (by rw [show byteN k = madeT (k + 1) k from (if_pos (by omega)).symm, tabA_set (u := madeT (k + 1)) (by omega) (fun j hj => made_step k j)]) ?_)
  ·refine AW.exit ?_; change AW _ _ _ _ _; refine AW.seq ?_; refine AW.region ?_; refine AL.r (rd_tab0 rfl ag_51 rfl rfl) ?_; refine AL.op rfl (op_tabstore rfl rfl rfl (tabA_len _) rfl sz_Table ?_); refine AL.no ?_; refine AL.nil ?_; change AW _ _ _ _ _; refine AW.ret ?_; change ResA _ _ _ _ _; refine res1tab rfl rfl rfl ag_51 ?_; rw [show tabV (madeT k) = tabV byteN from by unfold tabV; congr 2; unfold tabL; apply List.map_congr_left; intro i hi; rw [madeT, if_pos (by have := List.mem_range.1 hi; omega)]]
set_option maxRecDepth 100000
theorem four_eq (u : Nat) : byA (leB 4 u) = [[.sc (.int .u8 ((u % 256 % 256 : Nat) : Int))], [.sc (.int .u8 ((u / 256 % 256 % 256 : Nat) : Int))], [.sc (.int .u8 ((u / 256 / 256 % 256 % 256 : Nat) : Int))], [.sc (.int .u8 ((u / 256 / 256 / 256 % 256 % 256 : Nat) : Int))]] := by
  simp only [leB, byA, List.map_cons, List.map_nil, bv, Nat.mod_mod]
  rw [byteOf_toNat (by omega), byteOf_toNat (by omega), byteOf_toNat (by omega), byteOf_toNat (by omega)]
theorem four_c (u : Nat) (hu : u < 4294967296) : AC Tryz.prog 102 [.sc (.int .u32 (u : Int))] (fun r => r = .o 5 1 (byA (leB 4 u))) := by
  refine AC.of' 18 3 Tryz.func102 rfl ?_; change AW _ _ _ _ [TK.mk 0 .off, TK.mk 0 .off, TK.mk 0 .off]; refine AW.seq (AW.region (AL.ra ?_)); refine AL.nil (AW.seq (AW.region (AL.op rfl (AOpB.op (bs_own 0 rfl ap_52 ze_5 rfl rfl rfl ?_))))); refine AL.no ?_; refine AL.ra ?_; refine AL.nil (AW.seq (AW.seq (AW.region (AL.ra ?_)))); refine AL.nil (AW.block (AW.unroll 5 ?_)); change AW _ _ _ _ _; refine AW.seq (AW.seq (AW.region (AL.rm ?_))); refine AL.r qb ?_; refine AL.nil (AW.cond_t rfl (AW.skip (AW.seq (AW.block (AW.seq (AW.region ?_)))))); (iterate 2 refine AL.rm ?_); refine AL.r (rd_rem (c := 256) rfl rfl rfl rfl rfl (by omega)) ?_
  refine AL.r (rd_conv_int rfl iss_49 ik_5 rfl (wrap_u8 _)) ?_; refine AL.op rfl (AOpB.op (bs_set rfl ap_52 ze_5 rfl rfl ?_)); refine AL.no ?_; refine AL.op rfl (op_append rfl ap_52 rfl rfl (src_s rfl) (by first | omega | (simp; omega) | simp) (by first | omega | (simp; omega) | simp) ?_); refine AL.no ?_; refine AL.ra ?_; refine AL.nil (AW.region (AL.rm ?_)); refine AL.r (rd_quo (c := 256) rfl rfl rfl rfl rfl (by omega) (wrap_u32 _ (by omega))) ?_; refine AL.ra ?_; refine AL.nil (AW.region (AL.rm ?_)); refine AL.r (rd_arith_add rfl rfl rfl (rfl : _ = (1 : Int))) ?_; refine AL.ra ?_; refine AL.nil (AW.seq (AW.seq (AW.region (AL.rm ?_)))); refine AL.r qb ?_; refine AL.nil (AW.cond_t rfl (AW.skip ?_))
  change AW _ _ _ _ _; refine AW.seq (AW.block (AW.seq (AW.region ?_))); (iterate 2 refine AL.rm ?_); refine AL.r (rd_rem (c := 256) rfl rfl rfl rfl rfl (by omega)) ?_; refine AL.r (rd_conv_int rfl iss_49 ik_5 rfl (wrap_u8 _)) ?_; refine AL.op rfl (AOpB.op (bs_set rfl ap_52 ze_5 rfl rfl ?_)); refine AL.no ?_; refine AL.op rfl (op_append rfl ap_52 rfl rfl (src_s rfl) (by first | omega | (simp; omega) | simp) (by first | omega | (simp; omega) | simp) ?_); refine AL.no ?_; refine AL.ra ?_; refine AL.nil (AW.region (AL.rm ?_)); refine AL.r (rd_quo (c := 256) rfl rfl rfl rfl rfl (by omega) (wrap_u32 _ (by omega))) ?_; refine AL.ra ?_; refine AL.nil (AW.region (AL.rm ?_)); refine AL.r (rd_arith_add rfl rfl rfl (rfl : _ = (2 : Int))) ?_; refine AL.ra ?_; refine AL.nil ?_
  refine AW.seq (AW.seq (AW.region (AL.rm ?_))); refine AL.r qb ?_; refine AL.nil (AW.cond_t rfl (AW.skip (AW.seq (AW.block (AW.seq (AW.region ?_)))))); (iterate 2 refine AL.rm ?_); refine AL.r (rd_rem (c := 256) rfl rfl rfl rfl rfl (by omega)) ?_; refine AL.r (rd_conv_int rfl iss_49 ik_5 rfl (wrap_u8 _)) ?_; refine AL.op rfl (AOpB.op (bs_set rfl ap_52 ze_5 rfl rfl ?_)); refine AL.no ?_; refine AL.op rfl (op_append rfl ap_52 rfl rfl (src_s rfl) (by first | omega | (simp; omega) | simp) (by first | omega | (simp; omega) | simp) ?_); refine AL.no ?_; refine AL.ra ?_; refine AL.nil (AW.region (AL.rm ?_)); refine AL.r (rd_quo (c := 256) rfl rfl rfl rfl rfl (by omega) (wrap_u32 _ (by omega))) ?_; refine AL.ra ?_
  refine AL.nil (AW.region (AL.rm ?_)); refine AL.r (rd_arith_add rfl rfl rfl (rfl : _ = (3 : Int))) ?_; refine AL.ra ?_; refine AL.nil (AW.seq (AW.seq (AW.region (AL.rm ?_)))); refine AL.r qb ?_; refine AL.nil (AW.cond_t rfl (AW.skip (AW.seq (AW.block (AW.seq (AW.region ?_)))))); (iterate 2 refine AL.rm ?_); refine AL.r (rd_rem (c := 256) rfl rfl rfl rfl rfl (by omega)) ?_; refine AL.r (rd_conv_int rfl iss_49 ik_5 rfl (wrap_u8 _)) ?_; refine AL.op rfl (AOpB.op (bs_set rfl ap_52 ze_5 rfl rfl ?_)); refine AL.no ?_; refine AL.op rfl (op_append rfl ap_52 rfl rfl (src_s rfl) (by first | omega | (simp; omega) | simp) (by first | omega | (simp; omega) | simp) ?_); refine AL.no ?_
  refine AL.ra ?_; refine AL.nil (AW.region (AL.rm ?_)); refine AL.r (rd_quo (c := 256) rfl rfl rfl rfl rfl (by omega) (wrap_u32 _ (by omega))) ?_; refine AL.ra ?_; refine AL.nil (AW.region (AL.rm ?_)); refine AL.r (rd_arith_add rfl rfl rfl (rfl : _ = (4 : Int))) ?_; refine AL.ra ?_; refine AL.nil (AW.seq (AW.seq (AW.region (AL.rm ?_)))); refine AL.r qb ?_; refine AL.nil (AW.cond_f rfl (AW.exit ?_)); change AW _ _ _ _ _; refine AW.seq (AW.region (AL.rm ?_)); refine AL.ra ?_; refine AL.nil (AW.ret (res1o rfl (ResV.tmp rfl) rfl ?_)); rw [four_eq]
section
variable (t : Nat → Nat) (ht : ∀ i, i < 256 → t i < 4294967296)
include ht
theorem rmore_c (s : Nat) (hs : s < 4294967296) (l : List UInt8) : AC Tryz.prog 140 [.sc (tabV t), .sc (.int .u32 (s : Int)), .sl (byA l)] (fun r => r = .s (.sc (.int .u32 (moreN t s l : Nat)))) := by
  refine AC.of' 25 1 Tryz.func140 rfl ?_; change AW _ _ _ _ [TK.mk 0 .off]; refine AW.seq (AW.region (AL.op rfl (AOpB.op (op_tabbox 0 rfl rfl rfl ?_)))); refine AL.n ?_; refine AL.ra ?_; refine AL.nil (AW.seq (AW.seq (AW.region (AL.len (x := .tmp 2) rfl (fun hlen => ?_))))); rw [byA_len] at hlen; unfold maxLen at hlen; refine AL.ra ?_; refine AL.nil (AW.block (AW.loopM (ι := Nat) [8, 9, 10, 11, 12, 13, 14, 15, 16, 17, 18, 19, 20, 21, 22, 23, 24, 25, 26] (fun k => [(7, .sc (.int .i64 (k : Int))), (1, .sc (.int .u32 ((moreN t s (l.take k) : Nat) : Int)))]) [] (fun k => []) (fun k => k ≤ l.length) (fun k => l.length - k) 0 (Nat.zero_le _) wk sk ?_))
  rintro k gs hJ; refine AW.nm ?_
  have hS := moreN_lt ht (l.take k) hs
  refine AW.seq (AW.seq (AW.region ?_)); (iterate 2 refine AL.rm ?_); refine AL.r (rd_len_sl rfl el_52 rfl) ?_; refine AL.r qb ?_; refine AL.nil (AW.cd rfl (fun h11 => ?_) (fun h11 => ?_))
  ·refine AW.skip (AW.seq (AW.block (AW.region ?_)))
   have hkl : k < l.length := (by omega)
   have hy : l[k].toNat < 256 := UInt8.toNat_lt _
   have htx := ht (moreN t s (l.take k) % 256 ^^^ l[k].toNat) (xor_lt8 (by omega) hy)
   refine AL.rm ?_; refine AL.r (rd_rem (c := 256) rfl rfl rfl rfl rfl (by omega)) ?_; (iterate 2 refine AL.rm ?_); refine AL.r (rd_iaddr_sl rfl el_52 rfl rfl rfl (get_mapA (by omega)) rfl) ?_; refine AL.r (rd_load_ep rfl ag_5 rfl rfl) ?_; refine AL.r (rd_conv_int rfl iss_5 ik_49 rfl (wrap_u32 _ (by omega))) ?_; refine AL.r (rd_xor rfl rfl rfl (u32_xor_nat _ _ (by omega) (by omega))) ?_; refine AL.r (rd_iaddr_bx (i := moreN t s (l.take k) % 256 ^^^ l[k].toNat) rfl ar_51 rfl rfl rfl rfl (xor_lt8 (by omega) hy)) ?_; refine AL.r (rd_load_bx rfl ag_49 rfl rfl (by first | exact tabA_at t (xor_lt8 (by omega) hy) | exact tabA_get t (xor_lt8 (by omega) hy))) ?_; refine AL.rm ?_; refine AL.r (rd_quo (c := 256) rfl rfl rfl rfl rfl (by omega) (wrap_u32 _ (by omega))) ?_; refine AL.r (rd_xor rfl rfl rfl (u32_xor_nat _ _ (by omega) (by omega))) ?_; refine AL.ra ?_; refine AL.nil ?_
   refine AW.region ?_; rw [show t (moreN t s (l.take k) % 256 ^^^ (l[k]'(by omega)).toNat) ^^^ moreN t s (l.take k) / 256 = moreN t s (l.take (k + 1)) from (moreN_take t s l k (by omega)).symm]; refine AL.rm ?_; refine AL.r (rd_arith_add rfl rfl rfl (by first | exact IntWalk.i64_in _ (by omega) | rfl)) ?_; refine AL.ra ?_; refine AL.nil ?_; refine ⟨k + 1, ?_, by first | omega | (simp only []; omega), ?_, ?_⟩
   ·show k + 1 ≤ l.length; omega
   ·exact wk
   ·exact sk
  ·refine AW.exit ?_; change AW _ _ _ _ _; refine AW.seq (AW.region (AL.rm ?_)); refine AL.ra ?_; refine AL.nil (AW.ret (r1t ?_)); rw [List.take_of_length_le (by omega)]
theorem rof_c (l : List UInt8) : AC Tryz.prog 103 [.sc (tabV t), .sl (byA l)] (fun r => r = .s (.sc (.int .u32 (ofN t l : Nat)))) := by
  have hm := moreN_lt ht l (s := 4294967295) (by omega)
  refine AC.of' 7 1 Tryz.func103 rfl ?_; change AW _ _ _ _ [TK.mk 0 .off]; refine AW.seq (AW.region (AL.op rfl (AOpB.op (op_tabbox 0 rfl rfl rfl ?_)))); refine AL.n ?_; refine AL.ra ?_; refine AL.nil (AW.seq (AW.region (AL.r (rd_tab0 rfl ag_51 rfl rfl) ?_))); refine AL.rm ?_; refine AL.op rfl (AOpB.op (op_call (rmore_c t ht 4294967295 (by omega) l) rfl (by kernel_rfl) rfl (none) ?_)); rintro r rfl; refine AL.n ?_; refine AL.r (rd_arith_sub rfl rfl rfl (show IntKind.u32.wrap ((4294967295 : Int) - (moreN t 4294967295 l : Nat)) = ((ofN t l : Nat) : Int) from by unfold ofN; rw [show (4294967295 : Int) - (moreN t 4294967295 l : Nat) = ((4294967295 - moreN t 4294967295 l : Nat) : Int) by omega]; exact wrap_u32 _ (by omega))) ?_; refine AL.ra ?_; refine AL.nil (AW.ret (r1t ?_))
  rfl
end
set_option maxRecDepth 100000
section
variable (t : Nat → Nat) (ht : ∀ i, i < 256 → t i < 4294967296)
include ht
theorem rframe_c (b : List UInt8) (hb : b.length ≤ 4000000000) : AC Tryz.prog 53 [.sc (tabV t), .sl (byA b)] (fun r => r = .o 5 1 (byA (frameN t b))) := by
  refine AC.of' 24 8 Tryz.func53 rfl ?_; change AW _ _ _ _ [TK.mk 0 .off, TK.mk 0 .off, TK.mk 0 .off, TK.mk 0 .off, TK.mk 0 .off, TK.mk 0 .off, TK.mk 0 .off, TK.mk 0 .off]; refine AW.seq (AW.region (AL.op rfl (AOpB.op (op_tabbox 0 rfl rfl rfl ?_)))); refine AL.no ?_; refine AL.ra ?_; refine AL.nil (AW.seq (AW.region (AL.rm ?_))); refine AL.r (rd_len_sl rfl el_52 rfl) ?_; refine AL.r (rd_conv_int rfl iss_3 ik_49 rfl (wrap_u32 _ (by omega))) ?_; refine AL.op rfl (AOpB.op (op_call (four_c b.length (by omega)) rfl (by kernel_rfl) rfl (some 1) ?_)); rintro r rfl; refine ⟨_, rfl, ?_⟩; refine AL.no ?_; refine AL.ra ?_; refine AL.nil (AW.seq (AW.region (AL.op rfl (AOpB.op (bs_own 2 rfl ap_52 ze_5 rfl rfl rfl ?_))))); refine AL.no ?_; refine AL.rm ?_; refine AL.op rfl (op_append rfl ap_52 rfl rfl (src_ow rfl rfl) (by simp [byA_len, leB_len]) (by simp [byA_len, leB_len]) ?_)
  refine AL.no ?_; refine AL.ra ?_; refine AL.nil (AW.seq (AW.region ?_)); (iterate 2 refine AL.rm ?_); refine AL.op rfl (op_append rfl ap_52 rfl rfl (src_s rfl) (by simp [byA_len, leB_len]; omega) (by simp [byA_len, leB_len]; omega) ?_); refine AL.no ?_; refine AL.ra ?_; refine AL.nil (AW.seq (AW.region (AL.rm ?_))); refine AL.r (rd_tab0 rfl ag_51 rfl rfl) ?_; refine AL.rm ?_; refine AL.settle 19 rfl rfl (by first | rfl | exact cont_owM _ _ _ _) ?_; refine AL.no ?_; refine AL.op rfl (AOpB.op (op_call (rof_c t ht (leB 4 b.length ++ b)) rfl (by kernel_rfl) rfl (none) ?_)); rintro r rfl; refine AL.no ?_; refine AL.op rfl (AOpB.op (op_call (four_c (ofN t (leB 4 b.length ++ b)) (ofN_lt _)) rfl (by kernel_rfl) rfl (none) ?_)); rintro r rfl; refine AL.no ?_; refine AL.op rfl (op_append rfl ap_52 rfl rfl (src_s rfl) (by simp [byA_len, leB_len]) (by simp [byA_len, leB_len]) ?_)
  refine AL.no ?_; refine AL.ra ?_; refine AL.nil (AW.seq (AW.region ?_)); (iterate 2 refine AL.rm ?_); refine AL.op rfl (op_append rfl ap_52 rfl rfl (src_s rfl) (by simp [byA_len, leB_len]; omega) (by simp [byA_len, leB_len]; omega) ?_); refine AL.no ?_; refine AL.ra ?_; refine AL.nil (AW.ret (res1o rfl (ResV.tmp rfl) rfl ?_)); simp [frameN]
end
set_option maxRecDepth 100000
section
variable (t : Nat → Nat) (ht : ∀ i, i < 256 → t i < 4294967296)
include ht
end
end Go.Proofs.YtlapcfnmmpbeeaaGreat
