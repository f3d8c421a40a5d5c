/- A part of a proof. -/
import Derived.Test.YtlapcfnmmpbeeaaPT08
import Derived.Test.YtlapcfnmmpbeeaaPT09
set_option linter.unusedSimpArgs false
set_option linter.unusedVariables false
namespace Go.Proofs.Ytlapcfnmmpbeeaa
set_option maxRecDepth 100000
open Go.RowKit
theorem tabA_at (t : Nat → Nat) {i : Nat} (h : i < 256) : (tabA t)[0 + i * 1]? = some (.sc (.int .u32 (t i : Nat))) := by rw [Nat.zero_add, Nat.mul_one, tabA_get t h]
theorem moreN_take (t : Nat → Nat) (s : Nat) (l : List UInt8) (k : Nat) (h : k < l.length) : moreN t s (l.take (k + 1)) = stepN t (moreN t s (l.take k)) l[k].toNat := foldl_snoc_take _ _ _ _ h
section
variable (t : Nat → Nat) (ht : ∀ i, i < 256 → t i < 4294967296)
include ht
theorem more_c (s : Nat) (hs : s < 4294967296) (l : List UInt8) : AC Try.prog 78 [.sc (tabV t), .sc (.int .u32 (s : Int)), .sl (byA l)] (fun r => r = .s (.sc (.int .u32 (moreN t s l : Nat)))) := by
  refine AC.of' 23 1 Try.func78 rfl ?_; change AW _ _ _ _ [TK.mk 0 .off]; refine AW.g (AL.oq (AOpB.op (op_tabbox 0 rfl rfl rfl ?_))); refine AL.n ?_; refine AL.ra ?_; refine AL.nil (AW.seq (AW.g (AL.len (x := .tmp 2) rfl (fun hlen => ?_)))); rw [byA_len] at hlen; unfold maxLen at hlen; refine AL.rm ?_; refine AL.r (lN el_35) ?_; refine AL.rm ?_; refine AL.nil (AW.block (AW.loopM (ι := Nat) [8, 12, 13, 14, 15, 16, 17, 18, 19, 20, 21, 22, 23, 24] (fun k => [(11, .sc (.int .i64 (k : Int))), (1, .sc (.int .u32 ((moreN t s (l.take k) : Nat) : Int)))]) [] (fun k => []) (fun k => k ≤ l.length) (fun k => l.length - k) 0 (Nat.zero_le _) wk sk ?_)); rintro k gs hJ; refine AW.nm ?_
  have hS := moreN_lt ht (l.take k) hs
  refine AW.g (AL.r qb ?_); refine AL.nil (AW.seq (AW.cd rfl (fun h12 => ?_) (fun h12 => ?_)))
  ·refine AW.skip (AW.seq (AW.block (AW.g (AL.r (rd_iaddr_sl rfl el_35 rfl rfl rfl (get_mapA (by omega)) rfl) ?_)))); refine AL.r (rd_load_ep rfl ag_5 rfl rfl) ?_; refine AL.ra ?_; refine AL.nil (AW.region ?_)
   have hkl : k < l.length := (by omega)
   have hy : l[k].toNat < 256 := UInt8.toNat_lt _
   refine AL.rm ?_; refine AL.r (rd_conv_int rfl iss_29 ik_5 rfl (wrap_u8 _)) ?_; refine AL.rm ?_; refine AL.r (rd_xor rfl rfl rfl (u8_xor_nat _ _ (by omega) (by omega))) ?_; refine AL.r (rd_iaddr_bx (i := moreN t s (l.take k) % 256 ^^^ l[k].toNat) rfl ar_33 rfl rfl rfl rfl (xor_lt8 (by omega) hy)) ?_; refine AL.r (rd_load_bx rfl ag_29 rfl rfl (by first | exact tabA_at t (xor_lt8 (by omega) hy) | exact tabA_get t (xor_lt8 (by omega) hy))) ?_; refine AL.rm ?_; refine AL.r (rd_shr (c := 8) rfl rfl rfl rfl rfl (by decide) (show _ / 2 ^ 8 = _ / 256 from rfl)) ?_
   have htx := ht (moreN t s (l.take k) % 256 ^^^ l[k].toNat) (xor_lt8 (by omega) hy)
   refine AL.r (rd_xor rfl rfl rfl (u32_xor_nat _ _ (by omega) (by omega))) ?_; refine AL.ra ?_; refine AL.nil ?_; change AW _ _ _ _ _; refine AW.region ?_; rw [show t (moreN t s (l.take k) % 256 ^^^ l[k].toNat) ^^^ moreN t s (l.take k) / 256 = moreN t s (l.take (k + 1)) from (moreN_take t s l k hkl).symm]; refine AL.r qA ?_; refine AL.rm ?_; refine AL.nil ?_; refine ⟨k + 1, ?_, by first | omega | (simp only []; omega), ?_, ?_⟩
   ·show k + 1 ≤ l.length; omega
   ·exact wk
   exact sk
  refine AW.exit ?_; change AW _ _ _ _ _; refine AW.g (AL.rm ?_); refine AL.ra ?_; refine AL.nil (AW.ret (r1t ?_)); rw [List.take_of_length_le (by omega)]
theorem of_c (l : List UInt8) : AC Try.prog 50 [.sc (tabV t), .sl (byA l)] (fun r => r = .s (.sc (.int .u32 (ofN t l : Nat)))) := by
  have hm := moreN_lt ht l (s := 4294967295) (by omega)
  refine AC.of' 7 1 Try.func50 rfl ?_; change AW _ _ _ _ [TK.mk 0 .off]; refine AW.g (AL.oq (AOpB.op (op_tabbox 0 rfl rfl rfl ?_))); refine AL.n ?_; refine AL.ra ?_; refine AL.nil (AW.g (AL.r (rd_tab0 rfl ag_33 rfl rfl) ?_)); refine AL.rm ?_; refine AL.cl (more_c t ht 4294967295 (by omega) l) ?_; refine AL.n ?_; refine AL.r (rd_not32 rfl rfl rfl (by omega)) ?_; refine AL.ra ?_; refine AL.nil (AW.ret (r1t ?_)); rfl
theorem on_c (s : Nat) (hs : s < 4294967296) (l : List UInt8) : AC Try.prog 49 [.sc (tabV t), .sc (.int .u32 (s : Int)), .sl (byA l)] (fun r => r = .s (.sc (.int .u32 (onN t s l : Nat)))) := by
  have hm := moreN_lt ht l (s := 4294967295 - s) (by omega)
  refine AC.of' 10 1 Try.func49 rfl ?_; change AW _ _ _ _ [TK.mk 0 .off]; refine AW.g (AL.oq (AOpB.op (op_tabbox 0 rfl rfl rfl ?_))); refine AL.n ?_; refine AL.ra ?_; refine AL.nil (AW.g (AL.r (rd_tab0 rfl ag_33 rfl rfl) ?_)); refine AL.rm ?_; refine AL.r (rd_not32 rfl rfl rfl (by omega)) ?_; refine AL.rm ?_; refine AL.cl (more_c t ht (4294967295 - s) (by omega) l) ?_; refine AL.n ?_; refine AL.r (rd_not32 rfl rfl rfl (by omega)) ?_; refine AL.ra ?_; refine AL.nil (AW.ret (r1t ?_)); rfl
end
set_option maxRecDepth 100000
theorem or32 (a b c : Nat) (ha : a < 2 ^ c) (h : a + b * 2 ^ c < 4294967296) : bits .or .u32 (a : Int) ((b * 2 ^ c : Nat) : Int) = ((a + b * 2 ^ c : Nat) : Int) := by
  rw [u32_or_nat a (b * 2 ^ c) (by omega) (by omega)]
  congr 1
  rw [Nat.or_comm, Nat.mul_comm, ← Nat.two_pow_add_eq_or_of_lt ha, Nat.add_comm]
theorem num4 (l : List UInt8) (h : 4 ≤ l.length) : num (l.take 4) = l[0].toNat + l[1].toNat * 2 ^ 8 + l[2].toNat * 2 ^ 16 + l[3].toNat * 2 ^ 24 := by
  match l, h with
  | a :: b :: c :: d :: r, _ => simp [num]; omega
theorem low_eq (u : Nat) : byA (leB 4 u) = [[.sc (.int .u8 ((u % 256 : Nat) : Int))], [.sc (.int .u8 ((u / 256 % 256 : Nat) : Int))], [.sc (.int .u8 ((u / 65536 % 256 : Nat) : Int))], [.sc (.int .u8 ((u / 16777216 % 256 : Nat) : Int))]] := by
  simp only [leB, byA, List.map_cons, List.map_nil, bv]
  rw [byteOf_toNat (by omega), byteOf_toNat (by omega), byteOf_toNat (by omega), byteOf_toNat (by omega), Nat.div_div_eq_div_mul, Nat.div_div_eq_div_mul]
theorem low_c (u : Nat) (hu : u < 4294967296) : AC Try.prog 48 [.sc (.int .u32 (u : Int))] (fun r => r = .s (.sl (byA (leB 4 u)))) := by
  refine AC.of' 14 1 Try.func48 rfl ?_; change AW _ _ _ _ [TK.mk 0 .off]; refine AW.g (AL.ra ?_); refine AL.nil (AW.g (AL.rm ?_)); refine AL.r (rd_conv_int rfl iss_29 ik_5 rfl (wrap_u8 _)) ?_; refine AL.rm ?_; refine AL.r (rd_shr (c := 8) rfl rfl rfl rfl rfl (by decide) (show _ / 2 ^ 8 = _ / 256 from rfl)) ?_; refine AL.r (rd_conv_int rfl iss_29 ik_5 rfl (wrap_u8 _)) ?_; refine AL.rm ?_; refine AL.r (rd_shr (c := 16) rfl rfl rfl rfl rfl (by decide) (show _ / 2 ^ 16 = _ / 65536 from rfl)) ?_; refine AL.r (rd_conv_int rfl iss_29 ik_5 rfl (wrap_u8 _)) ?_; refine AL.rm ?_; refine AL.r (rd_shr (c := 24) rfl rfl rfl rfl rfl (by decide) (show _ / 2 ^ 24 = _ / 16777216 from rfl)) ?_; refine AL.r (rd_conv_int rfl iss_29 ik_5 rfl (wrap_u8 _)) ?_; refine AL.oq (AOpB.op (bs_set rfl ap_35 ze_5 rfl rfl ?_)); refine AL.n ?_; refine AL.ra ?_; refine AL.nil (AW.ret (r1t ?_)); rw [low_eq]
theorem number_c (l : List UInt8) (h : 4 ≤ l.length) : AC Try.prog 51 [.sl (byA l)] (fun r => r = .s (.sc (.int .u32 ((num (l.take 4) : Nat) : Int)))) := by
  have h0 : l[0].toNat < 256 := UInt8.toNat_lt _
  have h1 : l[1].toNat < 256 := UInt8.toNat_lt _
  have h2 : l[2].toNat < 256 := UInt8.toNat_lt _
  have h3 : l[3].toNat < 256 := UInt8.toNat_lt _
  refine AC.of' 24 0 Try.func51 rfl ?_; change AW _ _ _ _ []; refine AW.g (AL.ra ?_); refine AL.nil (AW.seq (AW.draw (by kernel_rfl) ?_)); refine AD.r 0 rfl (rd_move rfl rfl) rfl ?_; refine AD.r 1 rfl (rd_iaddr_sl (n := 0) rfl el_35 rfl rfl rfl (get_mapA (by omega)) rfl) rfl ?_; refine AD.r 2 rfl (rd_load_ep rfl ag_5 rfl rfl) rfl ?_; refine AD.r 3 rfl (rd_conv_int rfl iss_5 ik_29 rfl (wrap_u32 _ (by omega))) rfl ?_; refine AD.r 4 rfl (rd_move rfl rfl) rfl ?_; refine AD.r 5 rfl (rd_iaddr_sl (n := 1) rfl el_35 rfl rfl rfl (get_mapA (by omega)) rfl) rfl ?_; refine AD.r 6 rfl (rd_load_ep rfl ag_5 rfl rfl) rfl ?_; refine AD.r 7 rfl (rd_conv_int rfl iss_5 ik_29 rfl (wrap_u32 _ (by omega))) rfl ?_; refine AD.r 8 rfl (rd_shl (c := 8) rfl rfl rfl rfl rfl (by decide) (wrap_u32 _ (by omega))) rfl ?_; refine AD.r 9 rfl (rd_or rfl rfl rfl (or32 _ _ 8 (by omega) (by omega))) rfl ?_
  refine AD.r 10 rfl (rd_move rfl rfl) rfl ?_; refine AD.r 11 rfl (rd_iaddr_sl (n := 2) rfl el_35 rfl rfl rfl (get_mapA (by omega)) rfl) rfl ?_; refine AD.r 12 rfl (rd_load_ep rfl ag_5 rfl rfl) rfl ?_; refine AD.r 13 rfl (rd_conv_int rfl iss_5 ik_29 rfl (wrap_u32 _ (by omega))) rfl ?_; refine AD.r 14 rfl (rd_shl (c := 16) rfl rfl rfl rfl rfl (by decide) (wrap_u32 _ (by omega))) rfl ?_; refine AD.r 15 rfl (rd_or rfl rfl rfl (or32 _ _ 16 (by omega) (by omega))) rfl ?_; refine AD.r 16 rfl (rd_move rfl rfl) rfl ?_; refine AD.r 17 rfl (rd_iaddr_sl (n := 3) rfl el_35 rfl rfl rfl (get_mapA (by omega)) rfl) rfl ?_; refine AD.r 18 rfl (rd_load_ep rfl ag_5 rfl rfl) rfl ?_; refine AD.r 19 rfl (rd_conv_int rfl iss_5 ik_29 rfl (wrap_u32 _ (by omega))) rfl ?_; refine AD.r 20 rfl (rd_shl (c := 24) rfl rfl rfl rfl rfl (by decide) (wrap_u32 _ (by omega))) rfl ?_; refine AD.r 21 rfl (rd_or rfl rfl rfl (or32 _ _ 24 (by omega) (by omega))) rfl ?_
  refine AD.r 22 rfl (rd_assign rfl rfl) rfl ?_; refine AD.done (by kernel_rfl) ?_; change AW _ _ _ _ _; refine AW.ret (r1t ?_); rw [num4 l h]
section
variable (t : Nat → Nat) (ht : ∀ i, i < 256 → t i < 4294967296)
include ht
end
set_option maxRecDepth 100000
section
variable {P : Program} {o : Oper} {t : List AV} {st : List TK} {x lo hi : Operand} {T e m n : Nat} {ik ik' : IntKind} {I J : Int} {l : List UInt8}
theorem rd_by_from (ho : o.op = .slice T x (some lo) none none) (hT : elT P T = some (e, 1)) (hx : evA t x = .sl (byA l)) (hy : evV t lo = some (.int ik I)) (hI : I = (m : Int)) (hm : m ≤ l.length) : ARd P o t st (.sl (byA (l.drop m))) := by
  have := rd_slice_sl (P := P) (st := st) (n := (byA l).length) ho hT hx byA_one ⟨_, _, hy, hI⟩ rfl (by rw [byA_len]; exact hm) (Nat.le_refl _)
  rwa [List.take_of_length_le (Nat.le_refl _), byA_drop] at this
theorem rd_by_to (ho : o.op = .slice T x none (some hi) none) (hT : elT P T = some (e, 1)) (hx : evA t x = .sl (byA l)) (hy : evV t hi = some (.int ik I)) (hI : I = (n : Int)) (hn : n ≤ l.length) : ARd P o t st (.sl (byA (l.take n))) := by
  have := rd_slice_sl (P := P) (st := st) (m := 0) ho hT hx byA_one rfl ⟨_, _, hy, hI⟩ (Nat.zero_le _) (by rw [byA_len]; exact hn)
  rwa [List.drop_zero, byA_take] at this
theorem rd_by_mid (ho : o.op = .slice T x (some lo) (some hi) none) (hT : elT P T = some (e, 1)) (hx : evA t x = .sl (byA l)) (hy : evV t lo = some (.int ik I)) (hz : evV t hi = some (.int ik' J)) (hI : I = (m : Int)) (hJ : J = (n : Int)) (hm : m ≤ n) (hn : n ≤ l.length) : ARd P o t st (.sl (byA ((l.take n).drop m))) := by
  have := rd_slice_sl (P := P) (st := st) ho hT hx byA_one ⟨_, _, hy, hI⟩ ⟨_, _, hz, hJ⟩ hm (by rw [byA_len]; exact hn)
  rwa [byA_take, byA_drop] at this
end
def scanF (t : Nat → Nat) (l : List UInt8) : Nat → Nat → List (List UInt8) × Nat
  | 0, at_ => ([], at_)
  | f + 1, at_ => match fget t (l.drop at_) with | none => ([], at_) | some b => (b :: (scanF t l f (at_ + 8 + b.length)).1, (scanF t l f (at_ + 8 + b.length)).2)
section
variable (t : Nat → Nat) (ht : ∀ i, i < 256 → t i < 4294967296)
def gB (t : Nat → Nat) (l : List UInt8) (k : Nat) : List UInt8 := (fget t (l.drop k)).getD []
def gE (t : Nat → Nat) (l : List UInt8) (k : Nat) : Int := match fget t (l.drop k) with | none => 0 | some b => ((k + 8 + b.length : Nat) : Int)
def gC (t : Nat → Nat) (l : List UInt8) (k : Nat) : Int := match fget t (l.drop k) with | none => 8 | some _ => 0
theorem g_none {t : Nat → Nat} {l : List UInt8} {k : Nat} (h : fget t (l.drop k) = none) : gB t l k = [] ∧ gE t l k = 0 ∧ gC t l k = 8 := by unfold gB gE gC; rw [h]; exact ⟨rfl, rfl, rfl⟩
theorem g_some {t : Nat → Nat} {l b : List UInt8} {k : Nat} (h : fget t (l.drop k) = some b) : gB t l k = b ∧ gE t l k = ((k + 8 + b.length : Nat) : Int) ∧ gC t l k = 0 := by unfold gB gE gC; rw [h]; exact ⟨rfl, rfl, rfl⟩
theorem fget_n1 {t : Nat → Nat} {r : List UInt8} (h : r.length < 8) : fget t r = none := by unfold fget; rw [if_pos h]
theorem fget_n2 {t : Nat → Nat} {r : List UInt8} (h : 60000 < num (r.take 4) ∨ r.length < 8 + num (r.take 4)) : fget t r = none := by
  by_cases h1 : r.length < 8
  · exact fget_n1 h1
  unfold fget; rw [if_neg h1, if_pos h]
theorem fget_n3 {t : Nat → Nat} {r : List UInt8} (h1 : ¬ r.length < 8) (h2 : ¬ 60000 < num (r.take 4)) (h3 : ¬ r.length < 8 + num (r.take 4)) (h : num ((r.drop 4).take 4) ≠ ofN t (r.take 4 ++ (r.drop 8).take (num (r.take 4)))) : fget t r = none := by
  unfold fget
  rw [if_neg h1, if_neg (by omega), if_neg h]
theorem fget_y {t : Nat → Nat} {r : List UInt8} (h1 : ¬ r.length < 8) (h2 : ¬ 60000 < num (r.take 4)) (h3 : ¬ r.length < 8 + num (r.take 4)) (h : num ((r.drop 4).take 4) = ofN t (r.take 4 ++ (r.drop 8).take (num (r.take 4)))) : fget t r = some ((r.drop 8).take (num (r.take 4))) := by
  unfold fget
  rw [if_neg h1, if_neg (by omega), if_pos h]
include ht
theorem fgetc (l : List UInt8) (k : Nat) (hk : k ≤ l.length) (hl : l.length ≤ 1099511627776) : AC Try.prog 23 [.sl (byA l), .sc (.int .i64 (k : Int)), .sc (tabV t)] (fun r => r = .s (.tu [.sl (byA (gB t l k)), .sc (.int .i64 (gE t l k)), .sc (.int .i64 (gC t l k))])) := by
  obtain ⟨r, hr⟩ : ∃ r, r = l.drop k := ⟨_, rfl⟩
  have hrl : r.length = l.length - k := by rw [hr, List.length_drop]
  refine AC.of' 59 3 Try.func23 rfl ?_; change AW _ _ _ _ [TK.mk 0 .off, TK.mk 0 .off, TK.mk 0 .off]; refine AW.g (AL.oq (AOpB.op (op_tabbox 0 rfl rfl rfl ?_))); refine AL.n ?_; (iterate 3 refine AL.ra ?_); refine AL.nil (AW.scopeL [(0, ⟨Unit, [6, 7, 8, 9, 10, 11, 12, 13, 14, 15, 16, 17, 18, 19, 20, 21, 22, 23, 24, 25, 26, 27, 28, 29, 30, 31, 32, 33, 34, 35, 36, 37, 38, 39, 40, 41, 42, 43, 44, 45, 46, 47, 48, 49, 50, 51, 52, 53, 54, 55, 56, 57, 58, 59, 60, 61], fun u => [], [1, 2], fun u => [], fun u => fget t (l.drop k) = none, fun u => 0⟩)] (.cons (by kernel_rfl) .nil) (.cons ?_ .nil) ?_)
  ·rintro u gs hJ H; refine AW.nm ?_
   dsimp only at hJ
   change AW _ _ _ _ _; refine AW.g ?_; (iterate 3 refine AL.ra ?_); refine AL.nil (AW.ret (res3 rfl (ResV.tmp rfl) rfl (ResV.tmp rfl) rfl (ResV.tmp rfl) rfl ?_))
   (obtain ⟨e1, e2, e3⟩ := g_none hJ; rw [e1, e2, e3]; rfl)
  intro H; refine AW.g ?_; (iterate 2 refine AL.ra ?_); refine AL.nil (AW.g (AL.ra ?_)); refine AL.nil (AW.seq (AW.g (AL.rm ?_))); refine AL.r qb ?_; refine AL.rm ?_; refine AL.fk (d := 14) rfl (fun h14 => ?_) (fun h14 => ?_)
  ·omega
  refine AL.n ?_; refine AL.ro (rd_move rfl rfl) ?_; refine AL.ro (rd_move rfl rfl) ?_; refine AL.ro (lN el_35) ?_; refine AL.ro qb ?_; refine AL.r qf ?_; refine AL.nil (AW.cd rfl (fun h19 => ?_) (fun h19 => ?_))
  ·refine AW.seq ?_; omega
  refine AW.skip (AW.g ?_); (iterate 2 refine AL.rm ?_); refine AL.r (rd_by_from rfl el_35 rfl rfl rfl hk) ?_; rw [← hr]; refine AL.ra ?_; refine AL.nil (AW.seq (AW.g (AL.rm ?_))); refine AL.r (lN el_35) ?_; refine AL.r qb ?_; refine AL.nil (AW.cd rfl (fun h25 => ?_) (fun h25 => ?_))
  ·refine AW.goto ?_
   repeat with_reducible first | refine thenA_goto ?_ | refine inBlockA_goto ?_
   refine gotoI (.head _) () ?_ ?_ ?_ ?_
   ·dsimp only
    exact fget_n1 (by omega)
   ·intro n hn; cases hn
   ·exact wk
   exact sk
  refine AW.skip (AW.g (AL.rm ?_)); refine AL.cl (number_c r (by omega)) ?_; refine AL.n ?_; refine AL.ra ?_; refine AL.nil (AW.seq (AW.g ?_))
  have hnum : num (r.take 4) < 4294967296 := (by have := num_lt (r.take 4); rw [List.length_take] at this; have e : min 4 r.length = 4 := (by omega); rw [e] at this; exact this)
  refine AL.rm ?_; refine AL.r qb ?_; refine AL.rm ?_; refine AL.fk (d := 30) rfl (fun h30 => ?_) (fun h30 => ?_)
  ·refine AL.n ?_; (iterate 6 refine AL.rf ?_); refine AL.r qt ?_; refine AL.nil (AW.cond_t rfl (AW.goto ?_))
   repeat with_reducible first | refine thenA_goto ?_ | refine inBlockA_goto ?_
   refine gotoI (.head _) () ?_ ?_ ?_ ?_
   ·dsimp only
    exact fget_n2 (by omega)
   ·intro n hn; cases hn
   ·exact wk
   exact sk
  refine AL.n ?_; refine AL.ro (rd_move rfl rfl) ?_; refine AL.ro (lN el_35) ?_; refine AL.ro (rd_arith_sub rfl rfl rfl (by first | exact IntWalk.i64_in _ (by omega) | rfl)) ?_; refine AL.ro (rd_move rfl rfl) ?_; refine AL.ro (rd_conv_int rfl iss_29 ik_3 rfl (wrap_i64 _ (by omega))) ?_; refine AL.ro qb ?_; refine AL.r qf ?_; refine AL.nil (AW.cd rfl (fun h37 => ?_) (fun h37 => ?_))
  ·refine AW.goto ?_
   repeat with_reducible first | refine thenA_goto ?_ | refine inBlockA_goto ?_
   refine gotoI (.head _) () ?_ ?_ ?_ ?_
   ·dsimp only
    exact fget_n2 (by omega)
   ·intro n hn; cases hn
   ·exact wk
   exact sk
  refine AW.skip ?_; change AW _ _ _ _ _; refine AW.seq ?_; refine AW.region ?_; (iterate 2 refine AL.rm ?_); refine AL.r (rd_conv_int rfl iss_29 ik_3 rfl (wrap_i64 _ (by omega))) ?_; refine AL.r qA ?_; refine AL.r (rd_by_mid rfl el_35 rfl rfl rfl (m := 8) (n := 8 + num (r.take 4)) rfl (by omega) (by omega) (by omega)) ?_; rw [show List.drop 8 (List.take (8 + num (r.take 4)) r) = (r.drop 8).take (num (r.take 4)) from by rw [List.drop_take]; congr 1; omega]; refine AL.ra ?_; refine AL.nil ?_; change AW _ _ _ _ _; refine AW.seq ?_; refine AW.seq ?_; refine AW.draw (by kernel_rfl) ?_; refine AD.r 0 rfl (rd_move rfl rfl) rfl ?_; refine AD.r 1 rfl (rd_by_from rfl el_35 rfl rfl (m := 4) rfl (by omega)) rfl ?_; refine AD.r 3 rfl (rd_tab0 rfl ag_33 rfl rfl) rfl ?_; refine AD.r 4 rfl (rd_tab0 rfl ag_33 rfl rfl) rfl ?_; refine AD.r 5 rfl (rd_move rfl rfl) rfl ?_; refine AD.r 6 rfl (rd_by_to rfl el_35 rfl rfl (n := 4) rfl (by omega)) rfl ?_; refine AD.r 8 rfl (rd_move rfl rfl) rfl ?_; refine AD.move 2 rfl (by kernel_rfl) rfl (op_call (number_c (r.drop 4) (by rw [List.length_drop]; omega)) rfl (by kernel_rfl) rfl (none) ?_); rintro r rfl; refine AD.n ?_; refine AD.move 7 rfl (by kernel_rfl) rfl (op_call (of_c t ht (r.take 4)) rfl (by kernel_rfl) rfl (none) ?_); rintro r rfl; refine AD.n ?_; refine AD.move 9 rfl (by kernel_rfl) rfl (op_call (on_c t ht (ofN t (r.take 4)) (ofN_lt _) ((r.drop 8).take (num (r.take 4)))) rfl (by kernel_rfl) rfl (none) ?_); rintro r rfl; refine AD.n ?_; refine AD.r 10 rfl qb rfl ?_; refine AD.done (by kernel_rfl) ?_; change AW _ _ _ _ _; refine AW.cd rfl (fun h53 => ?_) (fun h53 => ?_)
  ·refine AW.goto ?_
   repeat with_reducible first | refine thenA_goto ?_ | refine inBlockA_goto ?_
   refine gotoI (.head _) () ?_ ?_ ?_ ?_
   ·dsimp only
    refine fget_n3 (by omega) (by omega) (by omega) ?_; rw [← onN_ofN ht]; exact fun e => h53 (by rw [e])
   ·intro n hn; cases hn
   ·exact wk
   exact sk
  refine AW.skip (AW.seq (AW.g ?_)); obtain ⟨e1, e2, e3⟩ := g_some (t := t) (l := l) (k := k) (b := (r.drop 8).take (num (r.take 4))) (by rw [← hr]; refine fget_y (by omega) (by omega) (by omega) ?_; rw [← onN_ofN ht]; omega); refine AL.oq (AOpB.op (bs_own 1 rfl ap_35 ze_5 rfl rfl rfl ?_)); refine AL.n ?_; refine AL.rm ?_; refine AL.oq (op_append rfl ap_35 rfl rfl (src_s rfl) (by simp [byA_len]; omega) (by simp [byA_len]; omega) ?_); refine AL.n ?_; refine AL.rm ?_; refine AL.r qA ?_; refine AL.rm ?_; refine AL.r (lN el_35) ?_; refine AL.r (rd_arith_add rfl rfl rfl (IntWalk.i64_in _ (by simp only [byA_len, List.length_take, List.length_drop]; omega))) ?_; (iterate 3 refine AL.ra ?_); refine AL.nil (AW.ret (res3 rfl (ResV.tmp rfl) (by first | rfl | exact setA_own rfl) (ResV.tmp rfl) rfl (ResV.tmp rfl) rfl ?_))
  (rw [e1, e2, e3]; simp [byA_len])
end
end Go.Proofs.Ytlapcfnmmpbeeaa
