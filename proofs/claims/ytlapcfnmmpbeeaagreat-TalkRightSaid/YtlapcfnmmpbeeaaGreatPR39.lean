/- Texts of the proof of talkRight_holds, put together by a program: Frm. -/
import Derived.Test.YtlapcfnmmpbeeaaGreatPR35
import Derived.Test.YtlapcfnmmpbeeaaGreatPR38
set_option linter.unusedSimpArgs false
set_option linter.unusedVariables false
namespace Go.Proofs.YtlapcfnmmpbeeaaGreat
set_option maxRecDepth 100000
open Go.RowKit
theorem tabA_at (t : Nat → Nat) {i : Nat} (h : i < 256) : (tabA t)[0 + i * 1]? = some (.sc (.int .u32 (t i : Nat))) := by rw [Nat.zero_add, Nat.mul_one, tabA_get t h]
theorem moreN_take (t : Nat → Nat) (s : Nat) (l : List UInt8) (k : Nat) (h : k < l.length) : moreN t s (l.take (k + 1)) = stepN t (moreN t s (l.take k)) l[k].toNat := foldl_snoc_take _ _ _ _ h
section
variable (t : Nat → Nat) (ht : ∀ i, i < 256 → t i < 4294967296)
include ht
theorem more_c (s : Nat) (hs : s < 4294967296) (l : List UInt8) : AC Tryz.prog 139 [.sc (tabV t), .sc (.int .u32 (s : Int)), .sl (byA l)] (fun r => r = .s (.sc (.int .u32 (moreN t s l : Nat)))) := by
  refine AC.of' 23 1 Tryz.func139 rfl ?_; change AW _ _ _ _ [TK.mk 0 .off]; refine AW.seq (AW.region ?_); refine AL.op rfl (AOpB.op (op_tabbox 0 rfl rfl rfl ?_)); refine AL.n ?_; refine AL.ra ?_; refine AL.nil ?_; change AW _ _ _ _ _; refine AW.seq ?_; refine AW.seq (AW.region ?_); refine AL.len (x := .tmp 2) rfl (fun hlen => ?_); rw [byA_len] at hlen; unfold maxLen at hlen; refine AL.rm ?_; refine AL.r (rd_len_sl rfl el_52 rfl) ?_; refine AL.rm ?_; refine AL.nil ?_; change AW _ _ _ _ _; refine AW.block ?_; refine AW.loopM (ι := Nat) [8, 12, 13, 14, 15, 16, 17, 18, 19, 20, 21, 22, 23, 24] (fun k => [(11, .sc (.int .i64 (k : Int))), (1, .sc (.int .u32 ((moreN t s (l.take k) : Nat) : Int)))]) [] (fun k => []) (fun k => k ≤ l.length) (fun k => l.length - k) 0 (Nat.zero_le _) (by simp only [anys, upds, offs, List.set_cons_zero, List.set_cons_succ]; repeat (first | exact Wk.nil | refine Wk.same ?_ | refine Wk.any ?_)) (by simp only [anys, upds, offs, List.set_cons_zero, List.set_cons_succ]; repeat (first | exact Sk.nil _ | refine Sk.same _ ?_ | refine Sk.scr _ (by decide) ?_)) ?_
  rintro k gs hJ; refine AW.norm (by simp only [anys, upds, offs, List.set_cons_zero, List.set_cons_succ]; rfl) (by (try simp only [anys, upds, offs, List.set_cons_zero, List.set_cons_succ]); (try rfl)) ?_
  have hS := moreN_lt ht (l.take k) hs
  refine AW.seq (AW.region ?_); refine AL.r (rd_bin rfl rfl rfl (fun _ => rfl)) ?_; refine AL.nil ?_; change AW _ _ _ _ _; refine AW.seq ?_; refine AW.cd rfl (fun h12 => ?_) (fun h12 => ?_)
  ·refine AW.skip ?_; change AW _ _ _ _ _; refine AW.seq ?_; refine AW.block ?_; refine AW.seq (AW.region ?_); refine AL.r (rd_iaddr_sl rfl el_52 rfl rfl rfl (get_mapA (by omega)) rfl) ?_; refine AL.r (rd_load_ep rfl ag_5 rfl rfl) ?_; refine AL.ra ?_; refine AL.nil ?_; change AW _ _ _ _ _; refine AW.region ?_
   have hkl : k < l.length := (by omega)
   have hy : l[k].toNat < 256 := UInt8.toNat_lt _
   refine AL.rm ?_; refine AL.r (rd_conv_int rfl iss_49 ik_5 rfl (wrap_u8 _)) ?_; refine AL.rm ?_; refine AL.r (rd_xor rfl rfl rfl (u8_xor_nat _ _ (by omega) (by omega))) ?_; refine AL.r (rd_iaddr_bx (i := moreN t s (l.take k) % 256 ^^^ l[k].toNat) rfl ar_51 rfl rfl rfl rfl (xor_lt8 (by omega) hy)) ?_; refine AL.r (rd_load_bx rfl ag_49 rfl rfl (by first | exact tabA_at t (xor_lt8 (by omega) hy) | exact tabA_get t (xor_lt8 (by omega) hy))) ?_; refine AL.rm ?_; refine AL.r (rd_shr (c := 8) rfl rfl rfl rfl rfl (by decide) (show _ / 2 ^ 8 = _ / 256 from rfl)) ?_
   have htx := ht (moreN t s (l.take k) % 256 ^^^ l[k].toNat) (xor_lt8 (by omega) hy)
   refine AL.r (rd_xor rfl rfl rfl (u32_xor_nat _ _ (by omega) (by omega))) ?_; refine AL.ra ?_; refine AL.nil ?_; change AW _ _ _ _ _; refine AW.region ?_; rw [show t (moreN t s (l.take k) % 256 ^^^ l[k].toNat) ^^^ moreN t s (l.take k) / 256 = moreN t s (l.take (k + 1)) from (moreN_take t s l k hkl).symm]; refine AL.r (rd_arith_add rfl rfl rfl (by first | exact IntWalk.i64_in _ (by omega) | rfl)) ?_; refine AL.rm ?_; refine AL.nil ?_; refine ⟨k + 1, ?_, by first | omega | (simp only []; omega), ?_, ?_⟩
   ·show k + 1 ≤ l.length; omega
   ·simp only [anys, upds, offs, List.set_cons_zero, List.set_cons_succ]; repeat (first | exact Wk.nil | refine Wk.same ?_ | refine Wk.any ?_)
   ·simp only [anys, upds, offs, List.set_cons_zero, List.set_cons_succ]; repeat (first | exact Sk.nil _ | refine Sk.same _ ?_ | refine Sk.scr _ (by decide) ?_)
  ·refine AW.exit ?_; change AW _ _ _ _ _; refine AW.seq (AW.region ?_); refine AL.rm ?_; refine AL.ra ?_; refine AL.nil ?_; change AW _ _ _ _ _; refine AW.ret ?_; change ResA _ _ _ _ _; refine res1 rfl (ResV.tmp rfl) rfl ?_; rw [List.take_of_length_le (by omega)]
theorem of_c (l : List UInt8) : AC Tryz.prog 101 [.sc (tabV t), .sl (byA l)] (fun r => r = .s (.sc (.int .u32 (ofN t l : Nat)))) := by
  have hm := moreN_lt ht l (s := 4294967295) (by omega)
  refine AC.of' 7 1 Tryz.func101 rfl ?_; change AW _ _ _ _ [TK.mk 0 .off]; refine AW.seq (AW.region ?_); refine AL.op rfl (AOpB.op (op_tabbox 0 rfl rfl rfl ?_)); refine AL.n ?_; refine AL.ra ?_; refine AL.nil ?_; change AW _ _ _ _ _; refine AW.seq (AW.region ?_); refine AL.r (rd_tab0 rfl ag_51 rfl rfl) ?_; refine AL.rm ?_; refine AL.op rfl (AOpB.op (op_call (more_c t ht 4294967295 (by omega) l) rfl (by kernel_rfl) rfl (none) ?_)); rintro r rfl; refine AL.n ?_; refine AL.r (rd_not32 rfl rfl rfl (by omega)) ?_; refine AL.ra ?_; refine AL.nil ?_; change AW _ _ _ _ _; refine AW.ret ?_; change ResA _ _ _ _ _; refine res1 rfl (ResV.tmp rfl) rfl ?_; rfl
theorem on_c (s : Nat) (hs : s < 4294967296) (l : List UInt8) : AC Tryz.prog 100 [.sc (tabV t), .sc (.int .u32 (s : Int)), .sl (byA l)] (fun r => r = .s (.sc (.int .u32 (onN t s l : Nat)))) := by
  have hm := moreN_lt ht l (s := 4294967295 - s) (by omega)
  refine AC.of' 10 1 Tryz.func100 rfl ?_; change AW _ _ _ _ [TK.mk 0 .off]; refine AW.seq (AW.region ?_); refine AL.op rfl (AOpB.op (op_tabbox 0 rfl rfl rfl ?_)); refine AL.n ?_; refine AL.ra ?_; refine AL.nil ?_; change AW _ _ _ _ _; refine AW.seq (AW.region ?_); refine AL.r (rd_tab0 rfl ag_51 rfl rfl) ?_; refine AL.rm ?_; refine AL.r (rd_not32 rfl rfl rfl (by omega)) ?_; refine AL.rm ?_; refine AL.op rfl (AOpB.op (op_call (more_c t ht (4294967295 - s) (by omega) l) rfl (by kernel_rfl) rfl (none) ?_)); rintro r rfl; refine AL.n ?_; refine AL.r (rd_not32 rfl rfl rfl (by omega)) ?_; refine AL.ra ?_; refine AL.nil ?_; change AW _ _ _ _ _; refine AW.ret ?_; change ResA _ _ _ _ _; refine res1 rfl (ResV.tmp rfl) rfl ?_; rfl
end
end Go.Proofs.YtlapcfnmmpbeeaaGreat
namespace Go.Proofs.YtlapcfnmmpbeeaaGreat
set_option maxRecDepth 100000
open Go.RowKit
theorem low_eq (u : Nat) : byA (leB 4 u) = [[.sc (.int .u8 ((u % 256 : Nat) : Int))], [.sc (.int .u8 ((u / 256 % 256 : Nat) : Int))], [.sc (.int .u8 ((u / 65536 % 256 : Nat) : Int))], [.sc (.int .u8 ((u / 16777216 % 256 : Nat) : Int))]] := by
  simp only [leB, byA, List.map_cons, List.map_nil, bv]
  rw [byteOf_toNat (by omega), byteOf_toNat (by omega), byteOf_toNat (by omega), byteOf_toNat (by omega), Nat.div_div_eq_div_mul, Nat.div_div_eq_div_mul]
theorem low_c (u : Nat) (hu : u < 4294967296) : AC Tryz.prog 99 [.sc (.int .u32 (u : Int))] (fun r => r = .s (.sl (byA (leB 4 u)))) := by
  refine AC.of' 14 1 Tryz.func99 rfl ?_; change AW _ _ _ _ [TK.mk 0 .off]; refine AW.seq (AW.region ?_); refine AL.ra ?_; refine AL.nil ?_; change AW _ _ _ _ _; refine AW.seq (AW.region ?_); refine AL.rm ?_; refine AL.r (rd_conv_int rfl iss_49 ik_5 rfl (wrap_u8 _)) ?_; refine AL.rm ?_; refine AL.r (rd_shr (c := 8) rfl rfl rfl rfl rfl (by decide) (show _ / 2 ^ 8 = _ / 256 from rfl)) ?_; refine AL.r (rd_conv_int rfl iss_49 ik_5 rfl (wrap_u8 _)) ?_; refine AL.rm ?_; refine AL.r (rd_shr (c := 16) rfl rfl rfl rfl rfl (by decide) (show _ / 2 ^ 16 = _ / 65536 from rfl)) ?_; refine AL.r (rd_conv_int rfl iss_49 ik_5 rfl (wrap_u8 _)) ?_; refine AL.rm ?_; refine AL.r (rd_shr (c := 24) rfl rfl rfl rfl rfl (by decide) (show _ / 2 ^ 24 = _ / 16777216 from rfl)) ?_; refine AL.r (rd_conv_int rfl iss_49 ik_5 rfl (wrap_u8 _)) ?_; refine AL.op rfl (AOpB.op (bs_set rfl ap_52 ze_5 rfl rfl ?_))
  refine AL.n ?_; refine AL.ra ?_; refine AL.nil ?_; change AW _ _ _ _ _; refine AW.ret ?_; change ResA _ _ _ _ _; refine res1 rfl (ResV.tmp rfl) rfl ?_; rw [low_eq]
section
variable (t : Nat → Nat) (ht : ∀ i, i < 256 → t i < 4294967296)
include ht
end
end Go.Proofs.YtlapcfnmmpbeeaaGreat
namespace Go.Proofs.YtlapcfnmmpbeeaaGreat
set_option maxRecDepth 100000
open Go.RowKit
section
variable {P : Program} {o : Oper} {t : List AV} {st : List TK} {x lo hi : Operand} {T e m n : Nat} {ik ik' : IntKind} {I J : Int} {l : List UInt8}
theorem rd_by_from (ho : o.op = .slice T x (some lo) none none) (hT : elT P T = some (e, 1)) (hx : evA t x = .sl (byA l)) (hy : evV t lo = some (.int ik I)) (hI : I = (m : Int)) (hm : m ≤ l.length) : ARd P o t st (.sl (byA (l.drop m))) := by
  have := rd_slice_sl (P := P) (st := st) (n := (byA l).length) ho hT hx byA_one ⟨_, _, hy, hI⟩ rfl (by rw [byA_len]; exact hm) (Nat.le_refl _)
  rwa [List.take_of_length_le (Nat.le_refl _), byA_drop] at this
end
section
variable (t : Nat → Nat) (ht : ∀ i, i < 256 → t i < 4294967296)
include ht
end
end Go.Proofs.YtlapcfnmmpbeeaaGreat
