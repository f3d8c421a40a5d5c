/- Frames: the reference's answers, walked over abstract states. Conditions: tables of numbers below 2^32. (Several texts in one.) -/
import Derived.Test.YtgjpeldgjpgbcaaFrm
/- Frames: the reference's answers, walked over abstract states. Conditions: tables of numbers below 2^32. -/
namespace Go.Proofs.Ytgjpeldgjpgbcaa
set_option linter.unusedSimpArgs false
set_option linter.unusedVariables false
set_option maxRecDepth 100000
open Go.RowKit

theorem four_eq (u : Nat) : byA (leB 4 u) = [[.sc (.int .u8 ((u % 256 % 256 : Nat) : Int))], [.sc (.int .u8 ((u / 256 % 256 % 256 : Nat) : Int))], [.sc (.int .u8 ((u / 256 / 256 % 256 % 256 : Nat) : Int))], [.sc (.int .u8 ((u / 256 / 256 / 256 % 256 % 256 : Nat) : Int))]] := by
  simp only [leB, byA, List.map_cons, List.map_nil, bv, Nat.mod_mod]
  rw [byteOf_toNat (by omega), byteOf_toNat (by omega), byteOf_toNat (by omega), byteOf_toNat (by omega)]
theorem four_c (u : Nat) (hu : u < 4294967296) : AC Try.prog 96 [.sc (.int .u32 (u : Int))] (fun r => r = .o 5 1 (byA (leB 4 u))) := by
  refine AC.of' 18 3 Try.func96 rfl ?_
  change AW _ _ _ _ [TK.mk 0 .off, TK.mk 0 .off, TK.mk 0 .off]
  refine AW.seq ?_
  refine AW.region ?_
  refine AL.ra ?_
  refine AL.nil ?_
  change AW _ _ _ _ _
  refine AW.seq ?_
  refine AW.region ?_
  refine AL.op rfl (AOpB.op (bs_own 0 rfl ap_29 ze_5 rfl rfl rfl ?_))
  refine AL.no ?_
  refine AL.ra ?_
  refine AL.nil ?_
  change AW _ _ _ _ _
  refine AW.seq ?_
  refine AW.seq ?_
  refine AW.region ?_
  refine AL.ra ?_
  refine AL.nil ?_
  change AW _ _ _ _ _
  refine AW.block ?_
  refine AW.unroll 5 ?_
  change AW _ _ _ _ _
  refine AW.seq ?_
  refine AW.seq ?_
  refine AW.region ?_
  refine AL.rm ?_
  refine AL.r (rd_bin rfl rfl rfl (fun _ => rfl)) ?_
  refine AL.nil ?_
  change AW _ _ _ _ _
  refine AW.cond_t rfl ?_
  refine AW.skip ?_
  change AW _ _ _ _ _
  refine AW.seq ?_
  refine AW.block ?_
  refine AW.seq ?_
  refine AW.region ?_
  refine AL.rm ?_
  refine AL.rm ?_
  refine AL.r (rd_rem (c := 256) rfl rfl rfl rfl rfl (by omega)) ?_
  refine AL.r (rd_conv_int rfl iss_51 ik_5 rfl (wrap_u8 _)) ?_
  refine AL.op rfl (AOpB.op (bs_set rfl ap_29 ze_5 rfl rfl ?_))
  refine AL.no ?_
  refine AL.op rfl (op_append rfl ap_29 rfl rfl (src_s rfl) (by first | omega | (simp; omega) | simp) (by first | omega | (simp; omega) | simp) ?_)
  refine AL.no ?_
  refine AL.ra ?_
  refine AL.nil ?_
  change AW _ _ _ _ _
  refine AW.region ?_
  refine AL.rm ?_
  refine AL.r (rd_quo (c := 256) rfl rfl rfl rfl rfl (by omega) (wrap_u32 _ (by omega))) ?_
  refine AL.ra ?_
  refine AL.nil ?_
  change AW _ _ _ _ _
  refine AW.region ?_
  refine AL.rm ?_
  refine AL.r (rd_arith_add rfl rfl rfl (rfl : _ = (1 : Int))) ?_
  refine AL.ra ?_
  refine AL.nil ?_
  change AW _ _ _ _ _
  refine AW.seq ?_
  refine AW.seq ?_
  refine AW.region ?_
  refine AL.rm ?_
  refine AL.r (rd_bin rfl rfl rfl (fun _ => rfl)) ?_
  refine AL.nil ?_
  change AW _ _ _ _ _
  refine AW.cond_t rfl ?_
  refine AW.skip ?_
  change AW _ _ _ _ _
  refine AW.seq ?_
  refine AW.block ?_
  refine AW.seq ?_
  refine AW.region ?_
  refine AL.rm ?_
  refine AL.rm ?_
  refine AL.r (rd_rem (c := 256) rfl rfl rfl rfl rfl (by omega)) ?_
  refine AL.r (rd_conv_int rfl iss_51 ik_5 rfl (wrap_u8 _)) ?_
  refine AL.op rfl (AOpB.op (bs_set rfl ap_29 ze_5 rfl rfl ?_))
  refine AL.no ?_
  refine AL.op rfl (op_append rfl ap_29 rfl rfl (src_s rfl) (by first | omega | (simp; omega) | simp) (by first | omega | (simp; omega) | simp) ?_)
  refine AL.no ?_
  refine AL.ra ?_
  refine AL.nil ?_
  change AW _ _ _ _ _
  refine AW.region ?_
  refine AL.rm ?_
  refine AL.r (rd_quo (c := 256) rfl rfl rfl rfl rfl (by omega) (wrap_u32 _ (by omega))) ?_
  refine AL.ra ?_
  refine AL.nil ?_
  change AW _ _ _ _ _
  refine AW.region ?_
  refine AL.rm ?_
  refine AL.r (rd_arith_add rfl rfl rfl (rfl : _ = (2 : Int))) ?_
  refine AL.ra ?_
  refine AL.nil ?_
  change AW _ _ _ _ _
  refine AW.seq ?_
  refine AW.seq ?_
  refine AW.region ?_
  refine AL.rm ?_
  refine AL.r (rd_bin rfl rfl rfl (fun _ => rfl)) ?_
  refine AL.nil ?_
  change AW _ _ _ _ _
  refine AW.cond_t rfl ?_
  refine AW.skip ?_
  change AW _ _ _ _ _
  refine AW.seq ?_
  refine AW.block ?_
  refine AW.seq ?_
  refine AW.region ?_
  refine AL.rm ?_
  refine AL.rm ?_
  refine AL.r (rd_rem (c := 256) rfl rfl rfl rfl rfl (by omega)) ?_
  refine AL.r (rd_conv_int rfl iss_51 ik_5 rfl (wrap_u8 _)) ?_
  refine AL.op rfl (AOpB.op (bs_set rfl ap_29 ze_5 rfl rfl ?_))
  refine AL.no ?_
  refine AL.op rfl (op_append rfl ap_29 rfl rfl (src_s rfl) (by first | omega | (simp; omega) | simp) (by first | omega | (simp; omega) | simp) ?_)
  refine AL.no ?_
  refine AL.ra ?_
  refine AL.nil ?_
  change AW _ _ _ _ _
  refine AW.region ?_
  refine AL.rm ?_
  refine AL.r (rd_quo (c := 256) rfl rfl rfl rfl rfl (by omega) (wrap_u32 _ (by omega))) ?_
  refine AL.ra ?_
  refine AL.nil ?_
  change AW _ _ _ _ _
  refine AW.region ?_
  refine AL.rm ?_
  refine AL.r (rd_arith_add rfl rfl rfl (rfl : _ = (3 : Int))) ?_
  refine AL.ra ?_
  refine AL.nil ?_
  change AW _ _ _ _ _
  refine AW.seq ?_
  refine AW.seq ?_
  refine AW.region ?_
  refine AL.rm ?_
  refine AL.r (rd_bin rfl rfl rfl (fun _ => rfl)) ?_
  refine AL.nil ?_
  change AW _ _ _ _ _
  refine AW.cond_t rfl ?_
  refine AW.skip ?_
  change AW _ _ _ _ _
  refine AW.seq ?_
  refine AW.block ?_
  refine AW.seq ?_
  refine AW.region ?_
  refine AL.rm ?_
  refine AL.rm ?_
  refine AL.r (rd_rem (c := 256) rfl rfl rfl rfl rfl (by omega)) ?_
  refine AL.r (rd_conv_int rfl iss_51 ik_5 rfl (wrap_u8 _)) ?_
  refine AL.op rfl (AOpB.op (bs_set rfl ap_29 ze_5 rfl rfl ?_))
  refine AL.no ?_
  refine AL.op rfl (op_append rfl ap_29 rfl rfl (src_s rfl) (by first | omega | (simp; omega) | simp) (by first | omega | (simp; omega) | simp) ?_)
  refine AL.no ?_
  refine AL.ra ?_
  refine AL.nil ?_
  change AW _ _ _ _ _
  refine AW.region ?_
  refine AL.rm ?_
  refine AL.r (rd_quo (c := 256) rfl rfl rfl rfl rfl (by omega) (wrap_u32 _ (by omega))) ?_
  refine AL.ra ?_
  refine AL.nil ?_
  change AW _ _ _ _ _
  refine AW.region ?_
  refine AL.rm ?_
  refine AL.r (rd_arith_add rfl rfl rfl (rfl : _ = (4 : Int))) ?_
  refine AL.ra ?_
  refine AL.nil ?_
  change AW _ _ _ _ _
  refine AW.seq ?_
  refine AW.seq ?_
  refine AW.region ?_
  refine AL.rm ?_
  refine AL.r (rd_bin rfl rfl rfl (fun _ => rfl)) ?_
  refine AL.nil ?_
  change AW _ _ _ _ _
  refine AW.cond_f rfl ?_
  refine AW.exit ?_
  change AW _ _ _ _ _
  refine AW.seq ?_
  refine AW.region ?_
  refine AL.rm ?_
  refine AL.ra ?_
  refine AL.nil ?_
  change AW _ _ _ _ _
  refine AW.ret ?_
  change ResA _ _ _ _ _
  refine res1o rfl (ResV.tmp rfl) rfl ?_
  rw [four_eq]
section
variable (t : Nat → Nat) (ht : ∀ i, i < 256 → t i < 4294967296)
include ht
theorem rmore_c (s : Nat) (hs : s < 4294967296) (l : List UInt8) : AC Try.prog 100 [.sc (tabV t), .sc (.int .u32 (s : Int)), .sl (byA l)] (fun r => r = .s (.sc (.int .u32 (moreN t s l : Nat)))) := by
  refine AC.of' 25 1 Try.func100 rfl ?_
  change AW _ _ _ _ [TK.mk 0 .off]
  refine AW.seq ?_
  refine AW.region ?_
  refine AL.op rfl (AOpB.op (op_tabbox 0 rfl rfl rfl ?_))
  refine AL.n ?_
  refine AL.ra ?_
  refine AL.nil ?_
  change AW _ _ _ _ _
  refine AW.seq ?_
  refine AW.seq ?_
  refine AW.region ?_
  refine AL.len (x := .tmp 2) rfl (fun hlen => ?_); rw [byA_len] at hlen; unfold maxLen at hlen
  refine AL.ra ?_
  refine AL.nil ?_
  change AW _ _ _ _ _
  refine AW.block ?_
  refine AW.loopM (ι := Nat) [8, 9, 10, 11, 12, 13, 14, 15, 16, 17, 18, 19, 20, 21, 22, 23, 24, 25, 26] (fun k => [(7, .sc (.int .i64 (k : Int))), (1, .sc (.int .u32 ((moreN t s (l.take k) : Nat) : Int)))]) [] (fun k => []) (fun k => k ≤ l.length) (fun k => l.length - k) 0 (Nat.zero_le _) (by simp only [anys, upds, offs, List.set_cons_zero, List.set_cons_succ]; repeat (first | exact Wk.nil | refine Wk.same ?_ | refine Wk.any ?_)) (by simp only [anys, upds, offs, List.set_cons_zero, List.set_cons_succ]; repeat (first | exact Sk.nil _ | refine Sk.same _ ?_ | refine Sk.scr _ (by decide) ?_)) ?_
  rintro k gs hJ
  refine AW.norm (by simp only [anys, upds, offs, List.set_cons_zero, List.set_cons_succ]; rfl) (by (try simp only [anys, upds, offs, List.set_cons_zero, List.set_cons_succ]); (try rfl)) ?_
  have hS := moreN_lt ht (l.take k) hs
  refine AW.seq ?_
  refine AW.seq ?_
  refine AW.region ?_
  refine AL.rm ?_
  refine AL.rm ?_
  refine AL.r (rd_len_sl rfl el_29 rfl) ?_
  refine AL.r (rd_bin rfl rfl rfl (fun _ => rfl)) ?_
  refine AL.nil ?_
  change AW _ _ _ _ _
  refine AW.cd rfl (fun h11 => ?_) (fun h11 => ?_)
  ·skip
   refine AW.skip ?_
   change AW _ _ _ _ _
   refine AW.seq ?_
   refine AW.block ?_
   refine AW.region ?_
   have hkl : k < l.length := (by omega)
   have hy : l[k].toNat < 256 := UInt8.toNat_lt _
   have htx := ht (moreN t s (l.take k) % 256 ^^^ l[k].toNat) (xor_lt8 (by omega) hy)
   refine AL.rm ?_
   refine AL.r (rd_rem (c := 256) rfl rfl rfl rfl rfl (by omega)) ?_
   refine AL.rm ?_
   refine AL.rm ?_
   refine AL.r (rd_iaddr_sl rfl el_29 rfl rfl rfl (get_mapA (by omega)) rfl) ?_
   refine AL.r (rd_load_ep rfl ag_5 rfl rfl) ?_
   refine AL.r (rd_conv_int rfl iss_5 ik_51 rfl (wrap_u32 _ (by omega))) ?_
   refine AL.r (rd_xor rfl rfl rfl (u32_xor_nat _ _ (by omega) (by omega))) ?_
   refine AL.r (rd_iaddr_bx (i := moreN t s (l.take k) % 256 ^^^ l[k].toNat) rfl ar_53 rfl rfl rfl rfl (xor_lt8 (by omega) hy)) ?_
   refine AL.r (rd_load_bx rfl ag_51 rfl rfl (by first | exact tabA_at t (xor_lt8 (by omega) hy) | exact tabA_get t (xor_lt8 (by omega) hy))) ?_
   refine AL.rm ?_
   refine AL.r (rd_quo (c := 256) rfl rfl rfl rfl rfl (by omega) (wrap_u32 _ (by omega))) ?_
   refine AL.r (rd_xor rfl rfl rfl (u32_xor_nat _ _ (by omega) (by omega))) ?_
   refine AL.ra ?_
   refine AL.nil ?_
   change AW _ _ _ _ _
   refine AW.region ?_
   rw [show t (moreN t s (l.take k) % 256 ^^^ (l[k]'(by omega)).toNat) ^^^ moreN t s (l.take k) / 256 = moreN t s (l.take (k + 1)) from (moreN_take t s l k (by omega)).symm]
   refine AL.rm ?_
   refine AL.r (rd_arith_add rfl rfl rfl (by first | exact IntWalk.i64_in _ (by omega) | rfl)) ?_
   refine AL.ra ?_
   refine AL.nil ?_
   refine ⟨k + 1, ?_, by first | omega | (simp only []; omega), ?_, ?_⟩
   ·show k + 1 ≤ l.length; omega
   ·simp only [anys, upds, offs, List.set_cons_zero, List.set_cons_succ]; repeat (first | exact Wk.nil | refine Wk.same ?_ | refine Wk.any ?_)
   ·simp only [anys, upds, offs, List.set_cons_zero, List.set_cons_succ]; repeat (first | exact Sk.nil _ | refine Sk.same _ ?_ | refine Sk.scr _ (by decide) ?_)
  ·skip
   refine AW.exit ?_
   change AW _ _ _ _ _
   refine AW.seq ?_
   refine AW.region ?_
   refine AL.rm ?_
   refine AL.ra ?_
   refine AL.nil ?_
   change AW _ _ _ _ _
   refine AW.ret ?_
   change ResA _ _ _ _ _
   refine res1 rfl (ResV.tmp rfl) rfl ?_
   rw [List.take_of_length_le (by omega)]
theorem rof_c (l : List UInt8) : AC Try.prog 97 [.sc (tabV t), .sl (byA l)] (fun r => r = .s (.sc (.int .u32 (ofN t l : Nat)))) := by
  have hm := moreN_lt ht l (s := 4294967295) (by omega)
  refine AC.of' 7 1 Try.func97 rfl ?_
  change AW _ _ _ _ [TK.mk 0 .off]
  refine AW.seq ?_
  refine AW.region ?_
  refine AL.op rfl (AOpB.op (op_tabbox 0 rfl rfl rfl ?_))
  refine AL.n ?_
  refine AL.ra ?_
  refine AL.nil ?_
  change AW _ _ _ _ _
  refine AW.seq ?_
  refine AW.region ?_
  refine AL.r (rd_tab0 rfl ag_53 rfl rfl) ?_
  refine AL.rm ?_
  refine AL.op rfl (AOpB.op (op_call (rmore_c t ht 4294967295 (by omega) l) rfl (by kernel_rfl) rfl (none) ?_))
  rintro r rfl
  refine AL.n ?_
  refine AL.r (rd_arith_sub rfl rfl rfl (show IntKind.u32.wrap ((4294967295 : Int) - (moreN t 4294967295 l : Nat)) = ((ofN t l : Nat) : Int) from by unfold ofN; rw [show (4294967295 : Int) - (moreN t 4294967295 l : Nat) = ((4294967295 - moreN t 4294967295 l : Nat) : Int) by omega]; exact wrap_u32 _ (by omega))) ?_
  refine AL.ra ?_
  refine AL.nil ?_
  change AW _ _ _ _ _
  refine AW.ret ?_
  change ResA _ _ _ _ _
  refine res1 rfl (ResV.tmp rfl) rfl ?_
  rfl
end
end Go.Proofs.Ytgjpeldgjpgbcaa
/- Frames: the reference's Frame, Get, Scan, Same, All; the made table; walked over abstract states. Conditions: tables of numbers below 2^32. -/
namespace Go.Proofs.Ytgjpeldgjpgbcaa
set_option linter.unusedSimpArgs false
set_option linter.unusedVariables false
set_option maxRecDepth 100000
open Go.RowKit

theorem rbyte_c (c : Nat) (hc : c < 256) : AC Try.prog 75 [.sc (.int .u8 (c : Int))] (fun r => r = .s (.sc (.int .u32 (byteN c : Nat)))) := by
  refine AC.of' 19 0 Try.func75 rfl ?_
  change AW _ _ _ _ []
  refine AW.seq ?_
  refine AW.region ?_
  refine AL.ra ?_
  refine AL.nil ?_
  change AW _ _ _ _ _
  refine AW.seq ?_
  refine AW.region ?_
  refine AL.rm ?_
  refine AL.r (rd_conv_int rfl iss_5 ik_51 rfl (wrap_u32 _ (by omega))) ?_
  refine AL.ra ?_
  refine AL.nil ?_
  change AW _ _ _ _ _
  refine AW.seq ?_
  refine AW.seq ?_
  refine AW.region ?_
  refine AL.ra ?_
  refine AL.nil ?_
  change AW _ _ _ _ _
  refine AW.block ?_
  refine AW.loopM (ι := Nat) [7, 8, 9, 10, 11, 12, 13, 14, 15, 16, 17, 18] (fun k => [(4, .sc (.int .i64 (k : Int))), (3, .sc (.int .u32 ((halves k c : Nat) : Int)))]) [] (fun k => []) (fun k => k ≤ 8) (fun k => 8 - k) 0 (Nat.zero_le _) (by simp only [anys, upds, offs, List.set_cons_zero, List.set_cons_succ]; repeat (first | exact Wk.nil | refine Wk.same ?_ | refine Wk.any ?_)) (by simp only [anys, upds, offs, List.set_cons_zero, List.set_cons_succ]; repeat (first | exact Sk.nil _ | refine Sk.same _ ?_ | refine Sk.scr _ (by decide) ?_)) ?_
  rintro k gs hJ
  refine AW.norm (by simp only [anys, upds, offs, List.set_cons_zero, List.set_cons_succ]; rfl) (by (try simp only [anys, upds, offs, List.set_cons_zero, List.set_cons_succ]); (try rfl)) ?_
  have hS := halves_lt k (n := c) (by omega)
  refine AW.seq ?_
  refine AW.seq ?_
  refine AW.region ?_
  refine AL.rm ?_
  refine AL.r (rd_bin rfl rfl rfl (fun _ => rfl)) ?_
  refine AL.nil ?_
  change AW _ _ _ _ _
  refine AW.cd rfl (fun h8 => ?_) (fun h8 => ?_)
  ·skip
   refine AW.skip ?_
   change AW _ _ _ _ _
   refine AW.seq ?_
   refine AW.block ?_
   refine AW.seq ?_
   refine AW.region ?_
   refine AL.rm ?_
   refine AL.r (rd_rem (c := 2) rfl rfl rfl rfl rfl (by omega)) ?_
   refine AL.r (rd_bin rfl rfl rfl (fun _ => rfl)) ?_
   refine AL.nil ?_
   change AW _ _ _ _ _
   refine AW.cd rfl (fun h13 => ?_) (fun h13 => ?_)
   ·skip
    refine AW.region ?_
    refine AL.rm ?_
    refine AL.r (rd_quo (c := 2) rfl rfl rfl rfl rfl (by omega) (wrap_u32 _ (by omega))) ?_
    refine AL.r (rd_xor rfl rfl rfl (u32_xor_nat _ 3988292384 (by omega) (by omega))) ?_
    refine AL.ra ?_
    refine AL.nil ?_
    change AW _ _ _ _ _
    refine AW.region ?_
    first | rw [show halves k c / 2 ^^^ 3988292384 = halves (k + 1) c from by rw [halves_succ', half, if_pos (by omega)]] | rw [show halves k c / 2 = halves (k + 1) c from by rw [halves_succ', half, if_neg (by omega)]]
    refine AL.rm ?_
    refine AL.r (rd_arith_add rfl rfl rfl (by first | exact IntWalk.i64_in _ (by omega) | rfl)) ?_
    refine AL.ra ?_
    refine AL.nil ?_
    refine ⟨k + 1, ?_, by first | omega | (simp only []; omega), ?_, ?_⟩
    ·show k + 1 ≤ 8; omega
    ·simp only [anys, upds, offs, List.set_cons_zero, List.set_cons_succ]; repeat (first | exact Wk.nil | refine Wk.same ?_ | refine Wk.any ?_)
    ·simp only [anys, upds, offs, List.set_cons_zero, List.set_cons_succ]; repeat (first | exact Sk.nil _ | refine Sk.same _ ?_ | refine Sk.scr _ (by decide) ?_)
   ·skip
    refine AW.region ?_
    refine AL.rm ?_
    refine AL.r (rd_quo (c := 2) rfl rfl rfl rfl rfl (by omega) (wrap_u32 _ (by omega))) ?_
    refine AL.ra ?_
    refine AL.nil ?_
    change AW _ _ _ _ _
    refine AW.region ?_
    first | rw [show halves k c / 2 ^^^ 3988292384 = halves (k + 1) c from by rw [halves_succ', half, if_pos (by omega)]] | rw [show halves k c / 2 = halves (k + 1) c from by rw [halves_succ', half, if_neg (by omega)]]
    refine AL.rm ?_
    refine AL.r (rd_arith_add rfl rfl rfl (by first | exact IntWalk.i64_in _ (by omega) | rfl)) ?_
    refine AL.ra ?_
    refine AL.nil ?_
    refine ⟨k + 1, ?_, by first | omega | (simp only []; omega), ?_, ?_⟩
    ·show k + 1 ≤ 8; omega
    ·simp only [anys, upds, offs, List.set_cons_zero, List.set_cons_succ]; repeat (first | exact Wk.nil | refine Wk.same ?_ | refine Wk.any ?_)
    ·simp only [anys, upds, offs, List.set_cons_zero, List.set_cons_succ]; repeat (first | exact Sk.nil _ | refine Sk.same _ ?_ | refine Sk.scr _ (by decide) ?_)
  ·skip
   refine AW.exit ?_
   change AW _ _ _ _ _
   refine AW.seq ?_
   refine AW.region ?_
   refine AL.rm ?_
   refine AL.ra ?_
   refine AL.nil ?_
   change AW _ _ _ _ _
   refine AW.ret ?_
   change ResA _ _ _ _ _
   refine res1 rfl (ResV.tmp rfl) rfl ?_
   rw [show k = 8 by omega]; rfl
theorem res1tab {P : Program} {fn : Func} {R : RS → Prop} {t : List AV} {st : List TK} {a T k g bt : Nat} {f : Nat → Nat} (hr : fn.results = #[.cell a T]) (h : evA t (.tmp a) = .bx k g 0) (hk : st[k]? = some ⟨g, .box bt (tabA f)⟩) (hT : agN P T = some (some 256)) (h' : R (.s (.sc (tabV f)))) : ResA P fn R t st := fun F ρ w0 w a' h0 hs hm => by
  obtain ⟨v, g1, g2⟩ := (ResV.cells (P := P) (zs := tabA f) h hk hT (by rw [tabA_len]; omega) (by rw [List.drop_zero, List.take_of_length_le (by rw [tabA_len]; omega)])).run hs hm
  refine ⟨v, .s (.sc (tabV f)), ?_, by rw [g2.tab]; exact RepS.sc _, h'⟩
  rw [res_eq, hr]
  simp [Sem.run_bind, g1]
def madeT (k : Nat) : Nat → Nat := fun i => if i < k then byteN i else 0
theorem made_step (k j : Nat) : madeT (k + 1) j = if j = k then madeT (k + 1) k else madeT k j := by
  unfold madeT
  by_cases e : j = k
  · subst e; simp
  · rw [if_neg e]
    by_cases e2 : j < k
    · rw [if_pos e2, if_pos (by omega)]
    · rw [if_neg e2, if_neg (by omega)]
theorem made_c : AC Try.prog 37 [] (fun r => r = .s (.sc (tabV byteN))) := by
  refine AC.of' 14 2 Try.func37 rfl ?_
  change AW _ _ _ _ [TK.mk 0 .off, TK.mk 0 .off]
  refine AW.seq ?_
  refine AW.region ?_
  refine AL.op rfl (AOpB.op (op_taballoc 0 rfl rfl ?_))
  refine AL.no ?_
  refine AL.nil ?_
  change AW _ _ _ _ _
  refine AW.seq ?_
  refine AW.region ?_
  refine AL.r (rd_tabzero rfl) ?_
  refine AL.op rfl (AOpB.op (op_taballoc 1 rfl rfl ?_))
  refine AL.no ?_
  refine AL.op rfl (op_tabstore rfl rfl rfl (tabA_len _) rfl sz_Table ?_)
  refine AL.no ?_
  refine AL.nil ?_
  change AW _ _ _ _ _
  refine AW.seq ?_
  refine AW.seq ?_
  refine AW.region ?_
  refine AL.ra ?_
  refine AL.nil ?_
  change AW _ _ _ _ _
  refine AW.block ?_
  refine AW.loopM (ι := Nat) [4, 5, 6, 7, 8, 9, 10, 11, 12] (fun k => [(2, .sc (.int .i64 (k : Int)))]) [] (fun k => [(1, ⟨1, .box 53 (tabA (madeT k))⟩)]) (fun k => k ≤ 256) (fun k => 256 - k) 0 (Nat.zero_le _) (by simp only [anys, upds, offs, List.set_cons_zero, List.set_cons_succ]; repeat (first | exact Wk.nil | refine Wk.same ?_ | refine Wk.any ?_)) (by simp only [anys, upds, offs, List.set_cons_zero, List.set_cons_succ]; repeat (first | exact Sk.nil _ | refine Sk.same _ ?_ | refine Sk.scr _ (by decide) ?_ | refine Sk.eq _ (by rfl) ?_)) ?_
  rintro k gs hJ
  refine AW.norm (by simp only [anys, upds, offs, List.set_cons_zero, List.set_cons_succ]; rfl) (by (try simp only [anys, upds, offs, List.set_cons_zero, List.set_cons_succ]); (try rfl)) ?_
  refine AW.seq ?_
  refine AW.seq ?_
  refine AW.region ?_
  refine AL.rm ?_
  refine AL.r (rd_bin rfl rfl rfl (fun _ => rfl)) ?_
  refine AL.nil ?_
  change AW _ _ _ _ _
  refine AW.cd rfl (fun h5 => ?_) (fun h5 => ?_)
  ·skip
   refine AW.skip ?_
   change AW _ _ _ _ _
   refine AW.seq ?_
   refine AW.block ?_
   refine AW.region ?_
   refine AL.rm ?_
   refine AL.rm ?_
   refine AL.r (rd_conv_int rfl iss_3 ik_5 rfl ((wrap_u8 k).trans (by rw [Nat.mod_eq_of_lt (by omega)]))) ?_
   refine AL.op rfl (AOpB.op (op_call (rbyte_c k (by omega)) rfl (by kernel_rfl) rfl (none) ?_))
   rintro r rfl
   refine AL.no ?_
   refine AL.r (rd_iaddr_bx (i := k) rfl ar_53 rfl rfl rfl rfl (by omega)) ?_
   refine AL.op rfl (op_store rfl rfl rfl rfl rfl rfl sz_51 (by simp only [List.length_cons, List.length_nil, tabA_len]; omega) ?_)
   refine AL.no ?_
   refine AL.nil ?_
   change AW _ _ _ _ _
   refine AW.region ?_
   refine AL.rm ?_
   refine AL.r (rd_arith_add rfl rfl rfl (by first | exact IntWalk.i64_in _ (by omega) | rfl)) ?_
   refine AL.ra ?_
   refine AL.nil ?_
   refine ⟨k + 1, ?_, by first | omega | (simp only []; omega), ?_, ?_⟩
   ·show k + 1 ≤ 256; omega
   ·simp only [anys, upds, offs, List.set_cons_zero, List.set_cons_succ]; repeat (first | exact Wk.nil | refine Wk.same ?_ | refine Wk.any ?_)
   ·simp only [anys, upds, offs, List.set_cons_zero, List.set_cons_succ]; repeat (first | exact Sk.nil _ | refine Sk.same _ ?_ | refine Sk.scr _ (by decide) ?_ | refine Sk.eq _ (by rw [show byteN k = madeT (k + 1) k from (if_pos (by omega)).symm, tabA_set (u := madeT (k + 1)) (by omega) (fun j hj => made_step k j)]) ?_)
  ·skip
   refine AW.exit ?_
   change AW _ _ _ _ _
   refine AW.seq ?_
   refine AW.region ?_
   refine AL.r (rd_tab0 rfl ag_53 rfl rfl) ?_
   refine AL.op rfl (op_tabstore rfl rfl rfl (tabA_len _) rfl sz_Table ?_)
   refine AL.no ?_
   refine AL.nil ?_
   change AW _ _ _ _ _
   refine AW.ret ?_
   change ResA _ _ _ _ _
   refine res1tab rfl rfl rfl ag_53 ?_
   rw [show tabV (madeT k) = tabV byteN from by unfold tabV; congr 2; unfold tabL; apply List.map_congr_left; intro i hi; rw [madeT, if_pos (by have := List.mem_range.1 hi; omega)]]
section
variable (t : Nat → Nat) (ht : ∀ i, i < 256 → t i < 4294967296)
include ht
theorem rframe_c (b : List UInt8) (hb : b.length ≤ 4000000000) : AC Try.prog 85 [.sc (tabV t), .sl (byA b)] (fun r => r = .o 5 1 (byA (frameN t b))) := by
  refine AC.of' 24 8 Try.func85 rfl ?_
  change AW _ _ _ _ [TK.mk 0 .off, TK.mk 0 .off, TK.mk 0 .off, TK.mk 0 .off, TK.mk 0 .off, TK.mk 0 .off, TK.mk 0 .off, TK.mk 0 .off]
  refine AW.seq ?_
  refine AW.region ?_
  refine AL.op rfl (AOpB.op (op_tabbox 0 rfl rfl rfl ?_))
  refine AL.no ?_
  refine AL.ra ?_
  refine AL.nil ?_
  change AW _ _ _ _ _
  refine AW.seq ?_
  refine AW.region ?_
  refine AL.rm ?_
  refine AL.r (rd_len_sl rfl el_29 rfl) ?_
  refine AL.r (rd_conv_int rfl iss_3 ik_51 rfl (wrap_u32 _ (by omega))) ?_
  refine AL.op rfl (AOpB.op (op_call (four_c b.length (by omega)) rfl (by kernel_rfl) rfl (some 1) ?_))
  rintro r rfl
  refine ⟨_, rfl, ?_⟩
  refine AL.no ?_
  refine AL.ra ?_
  refine AL.nil ?_
  change AW _ _ _ _ _
  refine AW.seq ?_
  refine AW.region ?_
  refine AL.op rfl (AOpB.op (bs_own 2 rfl ap_29 ze_5 rfl rfl rfl ?_))
  refine AL.no ?_
  refine AL.rm ?_
  refine AL.op rfl (op_append rfl ap_29 rfl rfl (src_ow rfl rfl) (by simp [byA_len, leB_len]) (by simp [byA_len, leB_len]) ?_)
  refine AL.no ?_
  refine AL.ra ?_
  refine AL.nil ?_
  change AW _ _ _ _ _
  refine AW.seq ?_
  refine AW.region ?_
  refine AL.rm ?_
  refine AL.rm ?_
  refine AL.op rfl (op_append rfl ap_29 rfl rfl (src_s rfl) (by simp [byA_len, leB_len]; omega) (by simp [byA_len, leB_len]; omega) ?_)
  refine AL.no ?_
  refine AL.ra ?_
  refine AL.nil ?_
  change AW _ _ _ _ _
  refine AW.seq ?_
  refine AW.region ?_
  refine AL.rm ?_
  refine AL.r (rd_tab0 rfl ag_53 rfl rfl) ?_
  refine AL.rm ?_
  refine AL.settle 19 rfl rfl (by first | rfl | exact cont_owM _ _ _ _) ?_
  refine AL.no ?_
  refine AL.op rfl (AOpB.op (op_call (rof_c t ht (leB 4 b.length ++ b)) rfl (by kernel_rfl) rfl (none) ?_))
  rintro r rfl
  refine AL.no ?_
  refine AL.op rfl (AOpB.op (op_call (four_c (ofN t (leB 4 b.length ++ b)) (ofN_lt _)) rfl (by kernel_rfl) rfl (none) ?_))
  rintro r rfl
  refine AL.no ?_
  refine AL.op rfl (op_append rfl ap_29 rfl rfl (src_s rfl) (by simp [byA_len, leB_len]) (by simp [byA_len, leB_len]) ?_)
  refine AL.no ?_
  refine AL.ra ?_
  refine AL.nil ?_
  change AW _ _ _ _ _
  refine AW.seq ?_
  refine AW.region ?_
  refine AL.rm ?_
  refine AL.rm ?_
  refine AL.op rfl (op_append rfl ap_29 rfl rfl (src_s rfl) (by simp [byA_len, leB_len]; omega) (by simp [byA_len, leB_len]; omega) ?_)
  refine AL.no ?_
  refine AL.ra ?_
  refine AL.nil ?_
  change AW _ _ _ _ _
  refine AW.ret ?_
  change ResA _ _ _ _ _
  refine res1o rfl (ResV.tmp rfl) rfl ?_
  simp [frameN]
theorem rget_c (l : List UInt8) (k : Nat) (hk : k ≤ l.length) (hl : l.length ≤ 1099511627776) : AC Try.prog 81 [.sl (byA l), .sc (.int .i64 (k : Int)), .sc (tabV t)] (fun r => r = .s (.tu [.sl (byA (gB t l k)), .sc (.int .i64 (gE t l k)), .sc (.bool (fget t (l.drop k)).isSome)])) := by
  obtain ⟨r, hr⟩ : ∃ r, r = l.drop k := ⟨_, rfl⟩
  have hrl : r.length = l.length - k := by rw [hr, List.length_drop]
  refine AC.of' 65 1 Try.func81 rfl ?_
  change AW _ _ _ _ [TK.mk 0 .off]
  refine AW.seq ?_
  refine AW.region ?_
  refine AL.op rfl (AOpB.op (op_tabbox 0 rfl rfl rfl ?_))
  refine AL.n ?_
  refine AL.ra ?_
  refine AL.ra ?_
  refine AL.ra ?_
  refine AL.nil ?_
  change AW _ _ _ _ _
  refine AW.seq ?_
  refine AW.region ?_
  refine AL.rm ?_
  refine AL.rm ?_
  refine AL.r (rd_by_from rfl el_29 rfl rfl rfl hk) ?_
  rw [← hr]
  refine AL.ra ?_
  refine AL.nil ?_
  change AW _ _ _ _ _
  refine AW.seq ?_
  refine AW.seq ?_
  refine AW.region ?_
  refine AL.rm ?_
  refine AL.r (rd_len_sl rfl el_29 rfl) ?_
  refine AL.r (rd_bin rfl rfl rfl (fun _ => rfl)) ?_
  refine AL.nil ?_
  change AW _ _ _ _ _
  refine AW.cd rfl (fun h17 => ?_) (fun h17 => ?_)
  ·skip
   refine AW.seq ?_
   refine AW.region ?_
   refine AL.ra ?_
   refine AL.ra ?_
   refine AL.ra ?_
   refine AL.nil ?_
   change AW _ _ _ _ _
   refine AW.ret ?_
   change ResA _ _ _ _ _
   refine res3 rfl (ResV.tmp rfl) rfl (ResV.tmp rfl) rfl (ResV.tmp rfl) rfl ?_
   (have hn : fget t (l.drop k) = none := (by rw [← hr]; exact fget_n1 (by omega)); obtain ⟨e1, e2, e3⟩ := g_none hn; rw [e1, e2, show fget t r = none by rw [hr]; exact hn]; rfl)
  ·skip
   refine AW.skip ?_
   change AW _ _ _ _ _
   refine AW.seq ?_
   refine AW.draw (by kernel_rfl) ?_
   have h4 : 4 ≤ r.length := (by omega)
   have b0 : r[0].toNat < 256 := UInt8.toNat_lt _; have b1 : r[1].toNat < 256 := UInt8.toNat_lt _; have b2 : r[2].toNat < 256 := UInt8.toNat_lt _; have b3 : r[3].toNat < 256 := UInt8.toNat_lt _
   have hn4 := num4 r h4
   refine AD.r 0 rfl (rd_move rfl rfl) rfl ?_
   refine AD.r 1 rfl (rd_iaddr_sl (n := 0) rfl el_29 rfl rfl rfl (get_mapA (by omega)) rfl) rfl ?_
   refine AD.r 2 rfl (rd_load_ep rfl ag_5 rfl rfl) rfl ?_
   refine AD.r 3 rfl (rd_conv_int rfl iss_5 ik_3 rfl (wrap_i64 _ (by omega))) rfl ?_
   refine AD.r 4 rfl (rd_move rfl rfl) rfl ?_
   refine AD.r 5 rfl (rd_iaddr_sl (n := 1) rfl el_29 rfl rfl rfl (get_mapA (by omega)) rfl) rfl ?_
   refine AD.r 6 rfl (rd_load_ep rfl ag_5 rfl rfl) rfl ?_
   refine AD.r 7 rfl (rd_conv_int rfl iss_5 ik_3 rfl (wrap_i64 _ (by omega))) rfl ?_
   refine AD.r 8 rfl (rd_arith_mul rfl rfl rfl (by first | exact IntWalk.i64_in _ (by omega) | rfl)) rfl ?_
   refine AD.r 9 rfl (rd_arith_add rfl rfl rfl (by first | exact IntWalk.i64_in _ (by omega) | rfl)) rfl ?_
   refine AD.r 10 rfl (rd_move rfl rfl) rfl ?_
   refine AD.r 11 rfl (rd_iaddr_sl (n := 2) rfl el_29 rfl rfl rfl (get_mapA (by omega)) rfl) rfl ?_
   refine AD.r 12 rfl (rd_load_ep rfl ag_5 rfl rfl) rfl ?_
   refine AD.r 13 rfl (rd_conv_int rfl iss_5 ik_3 rfl (wrap_i64 _ (by omega))) rfl ?_
   refine AD.r 14 rfl (rd_arith_mul rfl rfl rfl (by first | exact IntWalk.i64_in _ (by omega) | rfl)) rfl ?_
   refine AD.r 15 rfl (rd_arith_add rfl rfl rfl (by first | exact IntWalk.i64_in _ (by omega) | rfl)) rfl ?_
   refine AD.r 16 rfl (rd_move rfl rfl) rfl ?_
   refine AD.r 17 rfl (rd_iaddr_sl (n := 3) rfl el_29 rfl rfl rfl (get_mapA (by omega)) rfl) rfl ?_
   refine AD.r 18 rfl (rd_load_ep rfl ag_5 rfl rfl) rfl ?_
   refine AD.r 19 rfl (rd_conv_int rfl iss_5 ik_3 rfl (wrap_i64 _ (by omega))) rfl ?_
   refine AD.r 20 rfl (rd_arith_mul rfl rfl rfl (by first | exact IntWalk.i64_in _ (by omega) | rfl)) rfl ?_
   refine AD.r 21 rfl (rd_arith_add rfl rfl rfl (by first | exact IntWalk.i64_in _ (by omega) | rfl)) rfl ?_
   refine AD.r 22 rfl (rd_assign rfl rfl) rfl ?_
   refine AD.done (by kernel_rfl) ?_
   change AW _ _ _ _ _
   refine AW.seq ?_
   refine AW.seq ?_
   refine AW.region ?_
   rw [show ((r[0].toNat : Nat) : Int) + (256 : Int) * ((r[1].toNat : Nat) : Int) + (65536 : Int) * ((r[2].toNat : Nat) : Int) + (16777216 : Int) * ((r[3].toNat : Nat) : Int) = ((num (r.take 4) : Nat) : Int) by omega]
   refine AL.rm ?_
   refine AL.r (rd_bin rfl rfl rfl (fun _ => rfl)) ?_
   refine AL.rm ?_
   refine AL.fk (d := 42) rfl (fun h42 => ?_) (fun h42 => ?_)
   ·skip
    refine AL.n ?_
    refine AL.rf ?_
    refine AL.rf ?_
    refine AL.rf ?_
    refine AL.rf ?_
    refine AL.rf ?_
    refine AL.r (rd_pick_t rfl rfl rfl) ?_
    refine AL.nil ?_
    change AW _ _ _ _ _
    refine AW.cond_t rfl ?_
    refine AW.seq ?_
    refine AW.region ?_
    refine AL.ra ?_
    refine AL.ra ?_
    refine AL.ra ?_
    refine AL.nil ?_
    change AW _ _ _ _ _
    refine AW.ret ?_
    change ResA _ _ _ _ _
    refine res3 rfl (ResV.tmp rfl) rfl (ResV.tmp rfl) rfl (ResV.tmp rfl) rfl ?_
    (have hn : fget t (l.drop k) = none := (by rw [← hr]; exact fget_n2 (by omega)); obtain ⟨e1, e2, e3⟩ := g_none hn; rw [e1, e2, show fget t r = none by rw [hr]; exact hn]; rfl)
   ·skip
    refine AL.n ?_
    refine AL.ro (rd_move rfl rfl) ?_
    refine AL.ro (rd_arith_add rfl rfl rfl (by first | exact IntWalk.i64_in _ (by omega) | rfl)) ?_
    refine AL.ro (rd_move rfl rfl) ?_
    refine AL.ro (rd_len_sl rfl el_29 rfl) ?_
    refine AL.ro (rd_bin rfl rfl rfl (fun _ => rfl)) ?_
    refine AL.r (rd_pick_f rfl rfl rfl) ?_
    refine AL.nil ?_
    change AW _ _ _ _ _
    refine AW.cd rfl (fun h48 => ?_) (fun h48 => ?_)
    ·skip
     refine AW.seq ?_
     refine AW.region ?_
     refine AL.ra ?_
     refine AL.ra ?_
     refine AL.ra ?_
     refine AL.nil ?_
     change AW _ _ _ _ _
     refine AW.ret ?_
     change ResA _ _ _ _ _
     refine res3 rfl (ResV.tmp rfl) rfl (ResV.tmp rfl) rfl (ResV.tmp rfl) rfl ?_
     (have hn : fget t (l.drop k) = none := (by rw [← hr]; exact fget_n2 (by omega)); obtain ⟨e1, e2, e3⟩ := g_none hn; rw [e1, e2, show fget t r = none by rw [hr]; exact hn]; rfl)
    ·skip
     refine AW.skip ?_
     change AW _ _ _ _ _
     refine AW.seq ?_
     refine AW.region ?_
     refine AL.rm ?_
     refine AL.rm ?_
     refine AL.r (rd_arith_add rfl rfl rfl (by first | exact IntWalk.i64_in _ (by omega) | rfl)) ?_
     refine AL.r (rd_by_mid rfl el_29 rfl rfl rfl (m := 8) (n := 8 + num (r.take 4)) rfl (by omega) (by omega) (by omega)) ?_
     rw [show List.drop 8 (List.take (8 + num (r.take 4)) r) = (r.drop 8).take (num (r.take 4)) from by rw [List.drop_take]; congr 1; omega]
     refine AL.ra ?_
     refine AL.nil ?_
     change AW _ _ _ _ _
     refine AW.seq ?_
     refine AW.seq ?_
     refine AW.draw (by kernel_rfl) ?_
     refine AD.r 0 rfl (rd_tab0 rfl ag_53 rfl rfl) rfl ?_
     refine AD.r 1 rfl (rd_move rfl rfl) rfl ?_
     refine AD.r 4 rfl (rd_move rfl rfl) rfl ?_
     refine AD.r 5 rfl (rd_move rfl rfl) rfl ?_
     refine AD.r 6 rfl (rd_arith_add rfl rfl rfl (by first | exact IntWalk.i64_in _ (by omega) | rfl)) rfl ?_
     refine AD.r 7 rfl (rd_by_to rfl el_29 rfl rfl (n := 8 + num (r.take 4)) (by omega) (by omega)) rfl ?_
     refine AD.r 8 rfl (rd_b2s rfl (by kernel_rfl) (src_s rfl)) rfl ?_
     refine AD.move 2 rfl (by kernel_rfl) rfl (op_call (rframe_c t ht ((r.drop 8).take (num (r.take 4))) (by rw [List.length_take]; omega)) rfl (by kernel_rfl) rfl (none) ?_)
     rintro r rfl
     refine AD.n ?_
     refine AD.r 3 rfl (rd_b2s rfl (by kernel_rfl) (src_s rfl)) rfl ?_
     refine AD.r 9 rfl (rd_sne rfl rfl rfl) rfl ?_
     refine AD.done (by kernel_rfl) ?_
     change AW _ _ _ _ _
     refine AW.cd rfl (fun h62 => ?_) (fun h62 => ?_)
     ·skip
      refine AW.seq ?_
      refine AW.region ?_
      have hn : fget t (l.drop k) = none := (by rw [← hr]; exact fget_n3 (by omega) (by omega) (by omega) (fun e => h62 ((frame_iff t r (by omega)).2 e)))
      refine AL.ra ?_
      refine AL.ra ?_
      refine AL.ra ?_
      refine AL.nil ?_
      change AW _ _ _ _ _
      refine AW.ret ?_
      change ResA _ _ _ _ _
      refine res3 rfl (ResV.tmp rfl) rfl (ResV.tmp rfl) rfl (ResV.tmp rfl) rfl ?_
      (obtain ⟨e1, e2, e3⟩ := g_none hn; rw [e1, e2, show fget t r = none by rw [hr]; exact hn]; rfl)
     ·skip
      refine AW.skip ?_
      change AW _ _ _ _ _
      refine AW.seq ?_
      refine AW.region ?_
      have hy := fget_y (t := t) (r := r) (by omega) (by omega) (by omega) ((frame_iff t r (by omega)).1 h62)
      obtain ⟨e1, e2, e3⟩ := g_some (t := t) (l := l) (k := k) (b := (r.drop 8).take (num (r.take 4))) (by rw [← hr]; exact hy)
      refine AL.rm ?_
      refine AL.rm ?_
      refine AL.r (rd_arith_add rfl rfl rfl (by first | exact IntWalk.i64_in _ (by omega) | rfl)) ?_
      refine AL.rm ?_
      refine AL.r (rd_arith_add rfl rfl rfl (by first | exact IntWalk.i64_in _ (by omega) | rfl)) ?_
      refine AL.ra ?_
      refine AL.ra ?_
      refine AL.ra ?_
      refine AL.nil ?_
      change AW _ _ _ _ _
      refine AW.ret ?_
      change ResA _ _ _ _ _
      refine res3 rfl (ResV.tmp rfl) rfl (ResV.tmp rfl) rfl (ResV.tmp rfl) rfl ?_
      (rw [e1, e2, hy]; simp [List.length_take, List.length_drop]; omega)
end
end Go.Proofs.Ytgjpeldgjpgbcaa
/- Frames: the reference's Scan, Same, All, walked over abstract states. Conditions: tables of numbers below 2^32. -/
namespace Go.Proofs.Ytgjpeldgjpgbcaa
set_option linter.unusedSimpArgs false
set_option linter.unusedVariables false
set_option maxRecDepth 100000
open Go.RowKit

section
variable (t : Nat → Nat) (ht : ∀ i, i < 256 → t i < 4294967296)
include ht
theorem rscan_c (l : List UInt8) (hl : l.length ≤ 1099511627776) : AC Try.prog 43 [.sl (byA l), .sc (tabV t)] (fun r => r = .s (.tu [.sl (rowsA (scanN t l).1), .sc (.int .i64 (((scanN t l).2 : Nat) : Int))])) := by
  refine AC.of' 27 4 Try.func43 rfl ?_
  change AW _ _ _ _ [TK.mk 0 .off, TK.mk 0 .off, TK.mk 0 .off, TK.mk 0 .off]
  refine AW.seq ?_
  refine AW.region ?_
  refine AL.op rfl (AOpB.op (op_tabbox 0 rfl rfl rfl ?_))
  refine AL.n ?_
  refine AL.ra ?_
  refine AL.ra ?_
  refine AL.nil ?_
  change AW _ _ _ _ _
  refine AW.seq ?_
  refine AW.region ?_
  refine AL.op rfl (AOpB.op (bs_own 1 rfl ap_56 ze_29 rfl rfl rfl ?_))
  refine AL.n ?_
  refine AL.ra ?_
  refine AL.nil ?_
  change AW _ _ _ _ _
  refine AW.seq ?_
  refine AW.region ?_
  refine AL.ra ?_
  refine AL.nil ?_
  change AW _ _ _ _ _
  refine AW.block ?_
  refine AW.loopM (ι := Nat × Nat × List (List UInt8) × Nat) [4, 5, 8, 9, 10, 12, 13, 14, 15, 16, 17, 18, 19, 20, 21, 22, 23, 24, 25, 26, 27, 28] (fun ⟨k, f, rs, g⟩ => [(7, .sc (.int .i64 (k : Int))), (6, .ow 1 g)]) [2, 3] (fun ⟨k, f, rs, g⟩ => [(1, ⟨g, .own 29 1 (rowsA rs)⟩)]) (fun ⟨k, f, rs, g⟩ => k ≤ l.length ∧ l.length < k + f ∧ scanN t l = (rs ++ (scanF t l f k).1, (scanF t l f k).2) ∧ rs.length ≤ k) (fun ⟨k, f, rs, g⟩ => l.length - k) (0, l.length + 1, [], 1) (⟨Nat.zero_le _, by omega, rfl, Nat.le_refl _⟩) (by simp only [anys, upds, offs, List.set_cons_zero, List.set_cons_succ]; repeat (first | exact Wk.nil | refine Wk.same ?_ | refine Wk.any ?_)) (by simp only [anys, upds, offs, List.set_cons_zero, List.set_cons_succ]; repeat (first | exact Sk.nil _ | refine Sk.same _ ?_ | refine Sk.scr _ (by decide) ?_)) ?_
  rintro ⟨k, f, rs, g⟩ gs hJ
  refine AW.norm (by simp only [anys, upds, offs, List.set_cons_zero, List.set_cons_succ]; rfl) (by (try simp only [anys, upds, offs, List.set_cons_zero, List.set_cons_succ]); (try rfl)) ?_
  obtain ⟨hk, hf, hS, hrs⟩ := hJ
  refine AW.block ?_
  refine AW.seq ?_
  refine AW.region ?_
  refine AL.rm ?_
  refine AL.rm ?_
  refine AL.r (rd_tab0 rfl ag_53 rfl rfl) ?_
  refine AL.op rfl (AOpB.op (op_call (rget_c t ht l k hk hl) rfl (by kernel_rfl) rfl (none) ?_))
  rintro r rfl
  refine AL.n ?_
  refine AL.rm ?_
  refine AL.r (rd_extract rfl rfl rfl) ?_
  refine AL.r (rd_extract rfl rfl rfl) ?_
  refine AL.r (rd_extract rfl rfl rfl) ?_
  refine AL.ra ?_
  refine AL.ra ?_
  refine AL.ra ?_
  refine AL.nil ?_
  change AW _ _ _ _ _
  refine AW.seq ?_
  refine AW.seq ?_
  refine AW.region ?_
  refine AL.rm ?_
  refine AL.r (rd_un rfl rfl (fun _ => rfl)) ?_
  refine AL.nil ?_
  change AW _ _ _ _ _
  refine AW.cd rfl (fun h21 => ?_) (fun h21 => ?_)
  ·skip
   refine AW.seq ?_
   refine AW.region ?_
   refine AL.rm ?_
   refine AL.rm ?_
   refine AL.ra ?_
   refine AL.ra ?_
   refine AL.nil ?_
   change AW _ _ _ _ _
   refine AW.ret ?_
   change ResA _ _ _ _ _
   refine res2 rfl (ResV.tmp rfl) (by first | rfl | exact setA_own rfl) (ResV.tmp rfl) rfl ?_
   (rw [scan_none (by simpa using h21)] at hS; rw [hS]; simp)
  ·skip
   refine AW.skip ?_
   change AW _ _ _ _ _
   refine AW.seq ?_
   refine AW.region ?_
   obtain ⟨b, hb⟩ := Option.isSome_iff_exists.1 (show (fget t (l.drop k)).isSome = true by simpa using h21)
   obtain ⟨e1, e2, e3⟩ := g_some hb
   rw [e1, e2]
   obtain ⟨hk2, f', hf', hS'⟩ := scan_step hf hk hS hb
   refine AL.rm ?_
   refine AL.rm ?_
   refine AL.op rfl (AOpB.op (bs_set rfl ap_56 ze_29 rfl rfl ?_))
   refine AL.n ?_
   refine AL.op rfl (op_append rfl ap_56 rfl rfl (src_s rfl) (by simp [rowsA_len]; omega) (by simp [rowsA_len]; omega) ?_)
   refine AL.n ?_
   refine AL.ra ?_
   refine AL.nil ?_
   change AW _ _ _ _ _
   refine AW.region ?_
   refine AL.rm ?_
   refine AL.ra ?_
   refine AL.nil ?_
   refine ⟨(k + 8 + b.length, f', rs ++ [b], g + 1), ?_, by first | omega | (simp only []; omega), ?_, ?_⟩
   ·exact ⟨hk2, hf', hS', by simp; omega⟩
   ·simp only [anys, upds, offs, List.set_cons_zero, List.set_cons_succ]; repeat (first | exact Wk.nil | refine Wk.same ?_ | refine Wk.any ?_)
   ·simp only [anys, upds, offs, List.set_cons_zero, List.set_cons_succ]; repeat (first | exact Sk.nil _ | refine Sk.same _ ?_ | refine Sk.scr _ (by decide) ?_ | refine Sk.eq _ (by simp [rowsA]) ?_)
theorem rall_c (rs : List (List UInt8)) (hr : ∀ r ∈ rs, r.length ≤ 100000) (hl : rs.length ≤ 100000) : AC Try.prog 82 [.sc (tabV t), .sl (rowsA rs)] (fun r => r = .o 5 1 (byA (rs.flatMap (frameN t)))) := by
  refine AC.of' 21 3 Try.func82 rfl ?_
  change AW _ _ _ _ [TK.mk 0 .off, TK.mk 0 .off, TK.mk 0 .off]
  refine AW.seq ?_
  refine AW.region ?_
  refine AL.op rfl (AOpB.op (op_tabbox 0 rfl rfl rfl ?_))
  refine AL.n ?_
  refine AL.ra ?_
  refine AL.nil ?_
  change AW _ _ _ _ _
  refine AW.seq ?_
  refine AW.region ?_
  refine AL.op rfl (AOpB.op (bs_own 1 rfl ap_29 ze_5 rfl rfl rfl ?_))
  refine AL.n ?_
  refine AL.ra ?_
  refine AL.nil ?_
  change AW _ _ _ _ _
  refine AW.seq ?_
  refine AW.seq ?_
  refine AW.region ?_
  refine AL.ra ?_
  refine AL.nil ?_
  change AW _ _ _ _ _
  refine AW.block ?_
  refine AW.loopM (ι := Nat × Nat) [8, 9, 10, 11, 12, 13, 14, 15, 16, 17, 18, 19, 20, 21] (fun ⟨k, g⟩ => [(6, .sc (.int .i64 (k : Int))), (5, .ow 1 g)]) [2] (fun ⟨k, g⟩ => [(1, ⟨g, .own 5 1 (byA ((rs.take k).flatMap (frameN t)))⟩)]) (fun ⟨k, g⟩ => k ≤ rs.length ∧ ((rs.take k).flatMap (frameN t)).length ≤ 100008 * k) (fun ⟨k, g⟩ => rs.length - k) (0, 1) (⟨Nat.zero_le _, Nat.le_refl _⟩) (by simp only [anys, upds, offs, List.set_cons_zero, List.set_cons_succ]; repeat (first | exact Wk.nil | refine Wk.same ?_ | refine Wk.any ?_)) (by simp only [anys, upds, offs, List.set_cons_zero, List.set_cons_succ]; repeat (first | exact Sk.nil _ | refine Sk.same _ ?_ | refine Sk.scr _ (by decide) ?_)) ?_
  rintro ⟨k, g⟩ gs hJ
  refine AW.norm (by simp only [anys, upds, offs, List.set_cons_zero, List.set_cons_succ]; rfl) (by (try simp only [anys, upds, offs, List.set_cons_zero, List.set_cons_succ]); (try rfl)) ?_
  obtain ⟨hk, hlen⟩ := hJ
  refine AW.seq ?_
  refine AW.seq ?_
  refine AW.region ?_
  refine AL.rm ?_
  refine AL.rm ?_
  refine AL.r (rd_len_sl rfl el_56 rfl) ?_
  refine AL.r (rd_bin rfl rfl rfl (fun _ => rfl)) ?_
  refine AL.nil ?_
  change AW _ _ _ _ _
  refine AW.cd rfl (fun h11 => ?_) (fun h11 => ?_)
  ·skip
   refine AW.skip ?_
   change AW _ _ _ _ _
   refine AW.seq ?_
   refine AW.block ?_
   refine AW.drawA (by kernel_rfl) ?_
   have hkl : k < rs.length := (by simp only [rowsA_len] at h11; omega)
   have hrk := hr rs[k] (List.getElem_mem hkl)
   have hcat : (rs.take (k + 1)).flatMap (frameN t) = (rs.take k).flatMap (frameN t) ++ frameN t rs[k] := (by rw [List.take_succ_eq_append_getElem hkl, List.flatMap_append]; simp)
   refine ADA.r 0 rfl (ARdP.a (rdP_move rfl rfl)) rfl ?_
   refine ADA.r 2 rfl (ARdP.a (rdP_move rfl rfl)) rfl ?_
   refine ADA.r 3 rfl (ARdP.a (rdP_move rfl rfl)) rfl ?_
   refine ADA.r 4 rfl (ARdP.a (rdP_iaddr_sl rfl el_56 rfl rfl rfl (get_mapA (by omega)) rfl)) rfl ?_
   refine ADA.r 5 rfl (rdA_load_ep rfl ag_29 rfl rfl) rfl ?_
   refine ADA.b ?_
   refine ADB.mv 1 rfl (AOpB.op (ARd.opB (rd_tab0 rfl ag_53 rfl rfl) ?_))
   refine ADB.n ?_
   refine ADB.mv 6 rfl (AOpB.op (op_call (rframe_c t ht rs[k] (by omega)) rfl (by kernel_rfl) rfl (none) ?_))
   rintro r rfl
   refine ADB.n ?_
   refine ADB.mv 7 rfl (op_append rfl ap_29 rfl rfl (src_s rfl) (by simp only [byA_len, frameN_len]; omega) (by simp only [byA_len, frameN_len]; omega) ?_)
   refine ADB.n ?_
   refine ADB.r 8 rfl (rdP_assign rfl rfl) rfl ?_
   refine ADB.done (by kernel_rfl) ?_
   change AW _ _ _ _ _
   refine AW.region ?_
   refine AL.rm ?_
   refine AL.r (rd_arith_add rfl rfl rfl (by first | exact IntWalk.i64_in _ (by omega) | rfl)) ?_
   refine AL.ra ?_
   refine AL.nil ?_
   refine ⟨(k + 1, g + 1), ?_, by first | omega | (simp only []; omega), ?_, ?_⟩
   ·refine ⟨by omega, ?_⟩; rw [hcat, List.length_append, frameN_len]; omega
   ·simp only [anys, upds, offs, List.set_cons_zero, List.set_cons_succ]; repeat (first | exact Wk.nil | refine Wk.same ?_ | refine Wk.any ?_)
   ·simp only [anys, upds, offs, List.set_cons_zero, List.set_cons_succ]; repeat (first | exact Sk.nil _ | refine Sk.same _ ?_ | refine Sk.scr _ (by decide) ?_ | refine Sk.eq _ (by rw [hcat]) ?_)
  ·skip
   refine AW.exit ?_
   change AW _ _ _ _ _
   refine AW.seq ?_
   refine AW.region ?_
   refine AL.rm ?_
   refine AL.ra ?_
   refine AL.nil ?_
   change AW _ _ _ _ _
   refine AW.ret ?_
   change ResA _ _ _ _ _
   refine res1o rfl (ResV.tmp rfl) rfl ?_
   rw [List.take_of_length_le (by simp only [rowsA_len] at h11; omega)]
end
theorem rsame_c (a b : List (List UInt8)) : AC Try.prog 41 [.sl (rowsA a), .sl (rowsA b)] (fun r => r = .s (.sc (.bool (decide (a = b))))) := by
  refine AC.of' 26 0 Try.func41 rfl ?_
  change AW _ _ _ _ []
  refine AW.seq ?_
  refine AW.region ?_
  refine AL.ra ?_
  refine AL.nil ?_
  change AW _ _ _ _ _
  refine AW.seq ?_
  refine AW.seq ?_
  refine AW.region ?_
  refine AL.len (x := .tmp 0) rfl (fun hlen => ?_); rw [rowsA_len] at hlen; unfold maxLen at hlen
  refine AL.rm ?_
  refine AL.r (rd_len_sl rfl el_56 rfl) ?_
  refine AL.rm ?_
  refine AL.r (rd_len_sl rfl el_56 rfl) ?_
  refine AL.r (rd_bin rfl rfl rfl (fun _ => rfl)) ?_
  refine AL.nil ?_
  change AW _ _ _ _ _
  refine AW.cd rfl (fun h10 => ?_) (fun h10 => ?_)
  ·skip
   refine AW.seq ?_
   refine AW.region ?_
   refine AL.ra ?_
   refine AL.nil ?_
   change AW _ _ _ _ _
   refine AW.ret ?_
   change ResA _ _ _ _ _
   refine res1 rfl (ResV.tmp rfl) rfl ?_
   rw [decide_eq_false (fun e => by subst e; simp at h10)]
  ·skip
   refine AW.skip ?_
   change AW _ _ _ _ _
   refine AW.seq ?_
   refine AW.seq ?_
   refine AW.region ?_
   refine AL.ra ?_
   refine AL.nil ?_
   change AW _ _ _ _ _
   refine AW.block ?_
   refine AW.loopM (ι := Nat) [4, 11, 12, 13, 14, 15, 16, 17, 18, 19, 20, 21, 22, 23, 24, 25, 26, 27] (fun k => [(5, .sc (.int .i64 (k : Int)))]) [] (fun k => []) (fun k => k ≤ a.length ∧ a.take k = b.take k) (fun k => a.length - k) 0 (⟨by omega, rfl⟩) (by simp only [anys, upds, offs, List.set_cons_zero, List.set_cons_succ]; repeat (first | exact Wk.nil | refine Wk.same ?_ | refine Wk.any ?_)) (by simp only [anys, upds, offs, List.set_cons_zero, List.set_cons_succ]; repeat (first | exact Sk.nil _ | refine Sk.same _ ?_ | refine Sk.scr _ (by decide) ?_)) ?_
   rintro k gs hJ
   refine AW.norm (by simp only [anys, upds, offs, List.set_cons_zero, List.set_cons_succ]; rfl) (by (try simp only [anys, upds, offs, List.set_cons_zero, List.set_cons_succ]); (try rfl)) ?_
   obtain ⟨hk, hok⟩ := hJ; simp only [rowsA_len] at h10
   refine AW.seq ?_
   refine AW.seq ?_
   refine AW.region ?_
   refine AL.rm ?_
   refine AL.rm ?_
   refine AL.r (rd_len_sl rfl el_56 rfl) ?_
   refine AL.r (rd_bin rfl rfl rfl (fun _ => rfl)) ?_
   refine AL.nil ?_
   change AW _ _ _ _ _
   refine AW.cd rfl (fun h14 => ?_) (fun h14 => ?_)
   ·skip
    refine AW.skip ?_
    change AW _ _ _ _ _
    refine AW.seq ?_
    refine AW.block ?_
    refine AW.seq ?_
    refine AW.draw (by kernel_rfl) ?_
    have hka : k < a.length := (by simp only [rowsA_len] at h14; omega); have hkb : k < b.length := (by omega)
    refine AD.r 0 rfl (rd_move rfl rfl) rfl ?_
    refine AD.r 1 rfl (rd_move rfl rfl) rfl ?_
    refine AD.r 2 rfl (rd_iaddr_sl rfl el_56 rfl rfl rfl (get_mapA (by omega)) rfl) rfl ?_
    refine AD.r 3 rfl (rd_load_ep rfl ag_29 rfl rfl) rfl ?_
    refine AD.r 4 rfl (rd_b2s rfl (by kernel_rfl) (src_s rfl)) rfl ?_
    refine AD.r 5 rfl (rd_move rfl rfl) rfl ?_
    refine AD.r 6 rfl (rd_move rfl rfl) rfl ?_
    refine AD.r 7 rfl (rd_iaddr_sl rfl el_56 rfl rfl rfl (get_mapA (by omega)) rfl) rfl ?_
    refine AD.r 8 rfl (rd_load_ep rfl ag_29 rfl rfl) rfl ?_
    refine AD.r 9 rfl (rd_b2s rfl (by kernel_rfl) (src_s rfl)) rfl ?_
    refine AD.r 10 rfl (rd_sne rfl rfl rfl) rfl ?_
    refine AD.done (by kernel_rfl) ?_
    change AW _ _ _ _ _
    refine AW.cd rfl (fun h27 => ?_) (fun h27 => ?_)
    ·skip
     refine AW.seq ?_
     refine AW.region ?_
     refine AL.ra ?_
     refine AL.nil ?_
     change AW _ _ _ _ _
     refine AW.ret ?_
     change ResA _ _ _ _ _
     refine res1 rfl (ResV.tmp rfl) rfl ?_
     rw [decide_eq_false (fun e => by subst e; exact h27 rfl)]
    ·skip
     refine AW.skip ?_
     change AW _ _ _ _ _
     refine AW.region ?_
     refine AL.rm ?_
     refine AL.r (rd_arith_add rfl rfl rfl (by first | exact IntWalk.i64_in _ (by omega) | rfl)) ?_
     refine AL.ra ?_
     refine AL.nil ?_
     refine ⟨k + 1, ?_, by first | omega | (simp only []; omega), ?_, ?_⟩
     ·exact ⟨by omega, take_eq_next hka hkb hok h27⟩
     ·simp only [anys, upds, offs, List.set_cons_zero, List.set_cons_succ]; repeat (first | exact Wk.nil | refine Wk.same ?_ | refine Wk.any ?_)
     ·simp only [anys, upds, offs, List.set_cons_zero, List.set_cons_succ]; repeat (first | exact Sk.nil _ | refine Sk.same _ ?_ | refine Sk.scr _ (by decide) ?_)
   ·skip
    refine AW.exit ?_
    change AW _ _ _ _ _
    refine AW.seq ?_
    refine AW.region ?_
    refine AL.ra ?_
    refine AL.nil ?_
    change AW _ _ _ _ _
    refine AW.ret ?_
    change ResA _ _ _ _ _
    refine res1 rfl (ResV.tmp rfl) rfl ?_
    rw [decide_eq_true (by rw [List.take_of_length_le (by simp only [rowsA_len] at h14; omega), List.take_of_length_le (by simp only [rowsA_len] at h14; omega)] at hok; exact hok)]
end Go.Proofs.Ytgjpeldgjpgbcaa
