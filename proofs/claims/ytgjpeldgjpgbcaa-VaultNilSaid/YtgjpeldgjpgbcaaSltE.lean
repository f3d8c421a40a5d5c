/- The law SlotsFirst, walked over abstract states. -/
import Derived.Test.YtgjpeldgjpgbcaaSltD
import Derived.Test.YtgjpeldgjpgbcaaOpR
namespace Go.Proofs.Ytgjpeldgjpgbcaa
set_option linter.unusedSimpArgs false
set_option linter.unusedVariables false
set_option maxRecDepth 100000
open Go.RowKit

theorem leB8_div {u k : Nat} (h : k < 8) : byA ((leB 8 u).take (k + 1)) = byA ((leB 8 u).take k) ++ [[.sc (.int .u8 ((u / 256 ^ k % 256 : Nat) : Int))]] := by
  rw [leB_take u k h]
  simp only [byA, List.map_append, List.map_cons, List.map_nil, bv]
  rw [byteOf_toNat (Nat.mod_lt _ (by decide))]
theorem rtext_c (e : Nat) (he : e < 9223372036854775808) (b : List UInt8) (hb : b.length ≤ 1000000) : AC Try.prog 49 [.sc (.int .i64 (e : Int)), .sl (byA b)] (fun r => r = .o 5 1 (byA (snapN e b))) := by
  refine AC.of' 24 4 Try.func49 rfl ?_
  change AW _ _ _ _ [TK.mk 0 .off, TK.mk 0 .off, TK.mk 0 .off, TK.mk 0 .off]
  refine AW.seq ?_
  refine AW.region ?_
  refine AL.ra ?_
  refine AL.nil ?_
  change AW _ _ _ _ _
  refine AW.seq ?_
  refine AW.region ?_
  refine AL.op rfl (AOpB.op (bs_own 0 rfl ap_29 ze_5 rfl rfl rfl ?_))
  refine AL.no ?_
  refine AL.ra ?_
  refine AL.nil ?_
  change AW _ _ _ _ _
  refine AW.seq ?_
  refine AW.region ?_
  refine AL.rm ?_
  refine AL.r (rd_conv_int rfl iss_2 ik_117 rfl (wrap_u64 e (by omega))) ?_
  refine AL.ra ?_
  refine AL.nil ?_
  change AW _ _ _ _ _
  refine AW.seq ?_
  refine AW.seq ?_
  refine AW.region ?_
  rw [show (AV.sc (Value.int .u64 (e : Int))) = .sc (.int .u64 ((e / 256 ^ 0 : Nat) : Int)) by simp]
  refine AL.ra ?_
  refine AL.nil ?_
  change AW _ _ _ _ _
  refine AW.block ?_
  refine AW.loopM (ι := Nat × Nat) [11, 12, 13, 14, 15, 16, 17, 18, 19, 20, 21, 22] (fun ⟨j, q⟩ => [(7, .sc (.int .i64 (j : Int))), (6, .sc (.int .u64 ((e / 256 ^ j : Nat) : Int))), (5, .ow 0 q)]) [1, 2] (fun ⟨j, q⟩ => [(0, ⟨q, .own 5 1 (byA ((leB 8 e).take j))⟩)]) (fun ⟨j, q⟩ => j ≤ 8) (fun ⟨j, q⟩ => 8 - j) (0, 1) (Nat.zero_le _) (by simp only [anys, upds, offs, List.set_cons_zero, List.set_cons_succ]; repeat (first | exact Wk.nil | refine Wk.same ?_ | refine Wk.any ?_)) (by simp only [anys, upds, offs, List.set_cons_zero, List.set_cons_succ]; repeat (first | exact Sk.nil _ | refine Sk.same _ ?_ | refine Sk.scr _ (by decide) ?_ | refine Sk.eq _ (by rfl) ?_)) ?_
  rintro ⟨j, q⟩ gs hJ
  refine AW.norm (by simp only [anys, upds, offs, List.set_cons_zero, List.set_cons_succ]; rfl) (by (try simp only [anys, upds, offs, List.set_cons_zero, List.set_cons_succ]); (try rfl)) ?_
  refine AW.seq ?_
  refine AW.seq ?_
  refine AW.region ?_
  refine AL.rm ?_
  refine AL.r (rd_bin rfl rfl rfl (fun _ => rfl)) ?_
  refine AL.nil ?_
  change AW _ _ _ _ _
  refine AW.cd rfl (fun h12 => ?_) (fun h12 => ?_)
  ·skip
   refine AW.skip ?_
   change AW _ _ _ _ _
   refine AW.seq ?_
   refine AW.block ?_
   refine AW.seq ?_
   refine AW.region ?_
   refine AL.rm ?_
   refine AL.rm ?_
   refine AL.r (rd_rem (c := 256) rfl rfl rfl rfl rfl (by omega)) ?_
   refine AL.r (rd_conv_int rfl iss_117 ik_5 rfl (wrap_u8 _)) ?_
   refine AL.op rfl (AOpB.op (bs_set rfl ap_29 ze_5 rfl rfl ?_))
   refine AL.no ?_
   refine AL.op rfl (op_append rfl ap_29 rfl rfl (src_s rfl) (by simp only [byA_len, List.length_take, leB_len, List.length_cons, List.length_nil]; omega) (by simp only [byA_len, List.length_take, leB_len, List.length_cons, List.length_nil]; omega) ?_)
   refine AL.no ?_
   refine AL.ra ?_
   refine AL.nil ?_
   change AW _ _ _ _ _
   refine AW.region ?_
   have hd := Nat.div_le_self e (256 ^ j)
   refine AL.rm ?_
   refine AL.r (rd_quo (c := 256) rfl rfl rfl rfl rfl (by omega) (wrap_u64 _ (by omega))) ?_
   refine AL.ra ?_
   refine AL.nil ?_
   change AW _ _ _ _ _
   refine AW.region ?_
   rw [Nat.div_div_eq_div_mul, ← Nat.pow_succ]
   refine AL.rm ?_
   refine AL.r (rd_arith_add rfl rfl rfl (by first | exact IntWalk.i64_in _ (by omega) | rfl)) ?_
   refine AL.ra ?_
   refine AL.nil ?_
   refine ⟨(j + 1, q + 1), ?_, by first | omega | (simp only []; omega), ?_, ?_⟩
   ·show j + 1 ≤ 8; omega
   ·simp only [anys, upds, offs, List.set_cons_zero, List.set_cons_succ]; repeat (first | exact Wk.nil | refine Wk.same ?_ | refine Wk.any ?_)
   ·simp only [anys, upds, offs, List.set_cons_zero, List.set_cons_succ]; repeat (first | exact Sk.nil _ | refine Sk.same _ ?_ | refine Sk.scr _ (by decide) ?_ | refine Sk.eq _ (by rw [leB8_div (by omega)]; simp) ?_)
  ·skip
   refine AW.exit ?_
   change AW _ _ _ _ _
   refine AW.seq ?_
   refine AW.region ?_
   rw [show (leB 8 e).take j = leB 8 e from List.take_of_length_le (by rw [leB_len]; omega)]
   refine AL.rm ?_
   refine AL.rm ?_
   refine AL.op rfl (op_append rfl ap_29 rfl rfl (src_s rfl) (by simp only [byA_len, leB_len]; omega) (by simp only [byA_len, leB_len]; omega) ?_)
   refine AL.no ?_
   refine AL.ra ?_
   refine AL.nil ?_
   change AW _ _ _ _ _
   refine AW.ret ?_
   change ResA _ _ _ _ _
   refine res1o rfl (ResV.tmp rfl) rfl ?_
   rfl
theorem known11_c (rs : List (List UInt8)) (hr : ∀ r ∈ rs, r.length ≤ 100000) (hl : rs.length ≤ 100000) : AC Try.prog 48 [.sl (rowsA rs)] (fun r => r = .o 5 1 (byA (rs.flatMap (frameN byteN)))) := by
  refine AC.of' 5 1 Try.func48 rfl ?_
  change AW _ _ _ _ [TK.mk 0 .off]
  refine AW.seq ?_
  refine AW.region ?_
  refine AL.ra ?_
  refine AL.nil ?_
  change AW _ _ _ _ _
  refine AW.seq ?_
  refine AW.region ?_
  refine AL.op rfl (AOpB.op (op_call (made_c) rfl (by kernel_rfl) rfl (none) ?_))
  rintro r rfl
  refine AL.n ?_
  refine AL.rm ?_
  refine AL.op rfl (AOpB.op (op_call (rall_c byteN byte_tab rs hr hl) rfl (by kernel_rfl) rfl (some 0) ?_))
  rintro r rfl
  refine ⟨_, rfl, ?_⟩
  refine AL.n ?_
  refine AL.ra ?_
  refine AL.nil ?_
  change AW _ _ _ _ _
  refine AW.ret ?_
  change ResA _ _ _ _ _
  refine res1o rfl (ResV.tmp rfl) rfl ?_
  rfl
theorem known1 (e : Nat) (b : List UInt8) (hb : b.length ≤ 300) : AC Try.prog 48 [.sl (rowsA [snapN e b])] (fun r => r = .o 5 1 (byA (frameN byteN (snapN e b)))) := by
  have := known11_c [snapN e b] (fun r hr => by rw [List.mem_singleton.1 hr, snapN_len]; omega) (by simp)
  simpa using this
section
variable (x y : List UInt8) (hx : x.length ≤ 400) (hy : y.length ≤ 400)
def fD1 : DiskD := appDi (newD 2000) 0 x
def fD2 : DiskD := appDi (fD1 x) 1 y
include hx hy
theorem fD_ok : (fD1 x).Ok 1 ∧ (fD2 x y).Ok 2 ∧ (fD2 x y).dark = false ∧ (fD2 x y).n 0 = x ∧ (fD2 x y).n 1 = y := by
  have h1 := (gro_new (R := 2000) (by omega)).app (f := 0) (by omega) (b := x) (by simp [tot]; omega)
  have d1 : (fD1 x).dark = false := (appD_dark rfl _ _).trans rfl
  have f1 : (fD1 x).fused = false := (appD_fused _ _).trans rfl
  have h2 := h1.1.app (f := 1) (by omega) (b := y) (by simp [tot, upd]; omega)
  have d2 : (fD2 x y).dark = false := (appD_dark f1 _ _).trans d1
  refine ⟨h1.1.ok, h2.1.ok, d2, ?_, ?_⟩
  · have := h2.1.nn d2 (i := 0) (by omega)
    show (appDi (appDi (newD 2000) 0 x) 1 y).n 0 = x
    simpa [upd] using this
  · have := h2.1.nn d2 (i := 1) (by omega)
    show (appDi (appDi (newD 2000) 0 x) 1 y).n 1 = y
    simpa [upd] using this
end
theorem openS_file (t : Nat → Nat) (d : DiskD) (f : Nat) : (openS t d f).file = (f : Int) ∧ (openS t d f).down = false := by
  unfold openS pick1
  repeat' split
  all_goals exact ⟨rfl, rfl⟩
theorem fo1 {d : DiskD} {m n : Nat} {a b : List UInt8} (h0 : slotN byteN (d.n 0) = (m, a)) (h1 : slotN byteN (d.n 1) = (n, b)) (hm : 1 ≤ m) (h : n ≤ m) : (openS byteN d 0).epoch = m ∧ (openS byteN d 0).bytes = a := by
  rw [opS2 (by rw [h0]; simp; omega) (by rw [h0]; show ¬ _ < ((slotN byteN (d.n 1)).1 : Int); rw [h1]; simp; omega)]
  exact ⟨by rw [h0], by rw [h0]⟩
theorem fo2 {d : DiskD} {m n : Nat} {a b : List UInt8} (h0 : slotN byteN (d.n 0) = (m, a)) (h1 : slotN byteN (d.n 1) = (n, b)) (hn : 1 ≤ n) (h : m < n) : (openS byteN d 0).epoch = n ∧ (openS byteN d 0).bytes = b := by
  have h1' : slotN byteN (d.n (0 + 1)) = (n, b) := h1
  by_cases hm : (0 : Int) < ((slotN byteN (d.n 0)).1 : Int)
  · rw [opS1 hm (by rw [h0, h1']; simp; omega)]
    exact ⟨by rw [h1'], by rw [h1']⟩
  · rw [opS3 hm (by rw [h1']; simp; omega)]
    exact ⟨by rw [h1'], by rw [h1']⟩
theorem fo3 {d : DiskD} {m n : Nat} {a b : List UInt8} {bh : Bool} (h0 : bh = true → slotN byteN (d.n 0) = (0, [])) (h0' : bh = false → slotN byteN (d.n 0) = (m, a)) (h1 : slotN byteN (d.n 1) = (n, b)) (hn : 1 ≤ n) (h : bh = false → m < n) : (openS byteN d 0).epoch = n ∧ (openS byteN d 0).bytes = b := by
  cases bh with
  | true => exact fo2 (h0 rfl) h1 hn (by omega)
  | false => exact fo2 (h0' rfl) h1 hn (h rfl)
theorem first_c (m n : Int) (hm : m < 9223372036854775808) (hn : n < 9223372036854775808) (a b : List UInt8) (bh : Bool) : AC Try.prog 9 [.sc (.int .i64 m), .sc (.int .i64 n), .sl (byA a), .sl (byA b), .sc (.bool bh)] (fun r => r = .s (.sc (.bool true))) := by
  refine AC.of' 101 8 Try.func9 rfl ?_
  change AW _ _ _ _ [TK.mk 0 .off, TK.mk 0 .off, TK.mk 0 .off, TK.mk 0 .off, TK.mk 0 .off, TK.mk 0 .off, TK.mk 0 .off, TK.mk 0 .off]
  refine AW.seq ?_
  refine AW.region ?_
  refine AL.ra ?_
  refine AL.nil ?_
  change AW _ _ _ _ _
  refine AW.seq ?_
  refine AW.seq ?_
  refine AW.region ?_
  refine AL.op rfl (AOpB.op (op_call (awake11_c) rfl (by kernel_rfl) rfl (none) ?_))
  rintro r rfl
  refine AL.no ?_
  refine AL.r (rd_un rfl rfl (fun _ => rfl)) ?_
  refine AL.nil ?_
  change AW _ _ _ _ _
  refine AW.cond_f rfl ?_
  refine AW.skip ?_
  change AW _ _ _ _ _
  refine AW.seq ?_
  refine AW.seq ?_
  refine AW.region ?_
  refine AL.rm ?_
  refine AL.r (rd_bin rfl rfl rfl (fun _ => rfl)) ?_
  refine AL.rm ?_
  refine AL.fk (d := 21) rfl (fun h21 => ?_) (fun h21 => ?_)
  ·skip
   refine AL.n ?_
   refine AL.rf ?_
   refine AL.rf ?_
   refine AL.r (rd_pick_t rfl rfl rfl) ?_
   refine AL.rm ?_
   refine AL.rf ?_
   refine AL.rf ?_
   refine AL.r (rd_pick_t rfl rfl rfl) ?_
   refine AL.rm ?_
   refine AL.rf ?_
   refine AL.rf ?_
   refine AL.r (rd_pick_t rfl rfl rfl) ?_
   refine AL.rm ?_
   refine AL.rf ?_
   refine AL.rf ?_
   refine AL.rf ?_
   refine AL.r (rd_pick_t rfl rfl rfl) ?_
   refine AL.rm ?_
   refine AL.rf ?_
   refine AL.rf ?_
   refine AL.rf ?_
   refine AL.r (rd_pick_t rfl rfl rfl) ?_
   refine AL.nil ?_
   change AW _ _ _ _ _
   refine AW.cond_t rfl ?_
   refine AW.seq ?_
   refine AW.region ?_
   refine AL.ra ?_
   refine AL.nil ?_
   change AW _ _ _ _ _
   refine AW.ret ?_
   change ResA _ _ _ _ _
   refine res1 rfl (ResV.tmp rfl) rfl ?_
   rfl
  ·skip
   refine AL.n ?_
   refine AL.ro (rd_move rfl rfl) ?_
   refine AL.ro (rd_bin rfl rfl rfl (fun _ => rfl)) ?_
   refine AL.r (rd_pick_f rfl rfl rfl) ?_
   refine AL.rm ?_
   refine AL.fk (d := 25) rfl (fun h25 => ?_) (fun h25 => ?_)
   ·skip
    refine AL.n ?_
    refine AL.rf ?_
    refine AL.rf ?_
    refine AL.r (rd_pick_t rfl rfl rfl) ?_
    refine AL.rm ?_
    refine AL.rf ?_
    refine AL.rf ?_
    refine AL.r (rd_pick_t rfl rfl rfl) ?_
    refine AL.rm ?_
    refine AL.rf ?_
    refine AL.rf ?_
    refine AL.rf ?_
    refine AL.r (rd_pick_t rfl rfl rfl) ?_
    refine AL.rm ?_
    refine AL.rf ?_
    refine AL.rf ?_
    refine AL.rf ?_
    refine AL.r (rd_pick_t rfl rfl rfl) ?_
    refine AL.nil ?_
    change AW _ _ _ _ _
    refine AW.cond_t rfl ?_
    refine AW.seq ?_
    refine AW.region ?_
    refine AL.ra ?_
    refine AL.nil ?_
    change AW _ _ _ _ _
    refine AW.ret ?_
    change ResA _ _ _ _ _
    refine res1 rfl (ResV.tmp rfl) rfl ?_
    rfl
   ·skip
    refine AL.n ?_
    refine AL.ro (rd_move rfl rfl) ?_
    refine AL.ro (rd_bin rfl rfl rfl (fun _ => rfl)) ?_
    refine AL.r (rd_pick_f rfl rfl rfl) ?_
    refine AL.rm ?_
    refine AL.fk (d := 29) rfl (fun h29 => ?_) (fun h29 => ?_)
    ·skip
     refine AL.n ?_
     refine AL.rf ?_
     refine AL.rf ?_
     refine AL.r (rd_pick_t rfl rfl rfl) ?_
     refine AL.rm ?_
     refine AL.rf ?_
     refine AL.rf ?_
     refine AL.rf ?_
     refine AL.r (rd_pick_t rfl rfl rfl) ?_
     refine AL.rm ?_
     refine AL.rf ?_
     refine AL.rf ?_
     refine AL.rf ?_
     refine AL.r (rd_pick_t rfl rfl rfl) ?_
     refine AL.nil ?_
     change AW _ _ _ _ _
     refine AW.cond_t rfl ?_
     refine AW.seq ?_
     refine AW.region ?_
     refine AL.ra ?_
     refine AL.nil ?_
     change AW _ _ _ _ _
     refine AW.ret ?_
     change ResA _ _ _ _ _
     refine res1 rfl (ResV.tmp rfl) rfl ?_
     rfl
    ·skip
     refine AL.n ?_
     refine AL.ro (rd_move rfl rfl) ?_
     refine AL.ro (rd_bin rfl rfl rfl (fun _ => rfl)) ?_
     refine AL.r (rd_pick_f rfl rfl rfl) ?_
     refine AL.rm ?_
     refine AL.fk (d := 33) rfl (fun h33 => ?_) (fun h33 => ?_)
     ·skip
      refine AL.n ?_
      refine AL.rf ?_
      refine AL.rf ?_
      refine AL.rf ?_
      refine AL.r (rd_pick_t rfl rfl rfl) ?_
      refine AL.rm ?_
      refine AL.rf ?_
      refine AL.rf ?_
      refine AL.rf ?_
      refine AL.r (rd_pick_t rfl rfl rfl) ?_
      refine AL.nil ?_
      change AW _ _ _ _ _
      refine AW.cond_t rfl ?_
      refine AW.seq ?_
      refine AW.region ?_
      refine AL.ra ?_
      refine AL.nil ?_
      change AW _ _ _ _ _
      refine AW.ret ?_
      change ResA _ _ _ _ _
      refine res1 rfl (ResV.tmp rfl) rfl ?_
      rfl
     ·skip
      refine AL.n ?_
      refine AL.ro (rd_move rfl rfl) ?_
      refine AL.ro (rd_len_sl rfl el_29 rfl) ?_
      refine AL.ro (rd_bin rfl rfl rfl (fun _ => rfl)) ?_
      refine AL.r (rd_pick_f rfl rfl rfl) ?_
      refine AL.rm ?_
      refine AL.fk (d := 38) rfl (fun h38 => ?_) (fun h38 => ?_)
      ·skip
       refine AL.n ?_
       refine AL.rf ?_
       refine AL.rf ?_
       refine AL.rf ?_
       refine AL.r (rd_pick_t rfl rfl rfl) ?_
       refine AL.nil ?_
       change AW _ _ _ _ _
       refine AW.cond_t rfl ?_
       refine AW.seq ?_
       refine AW.region ?_
       refine AL.ra ?_
       refine AL.nil ?_
       change AW _ _ _ _ _
       refine AW.ret ?_
       change ResA _ _ _ _ _
       refine res1 rfl (ResV.tmp rfl) rfl ?_
       rfl
      ·skip
       refine AL.n ?_
       refine AL.ro (rd_move rfl rfl) ?_
       refine AL.ro (rd_len_sl rfl el_29 rfl) ?_
       refine AL.ro (rd_bin rfl rfl rfl (fun _ => rfl)) ?_
       refine AL.r (rd_pick_f rfl rfl rfl) ?_
       refine AL.nil ?_
       change AW _ _ _ _ _
       refine AW.cd rfl (fun h42 => ?_) (fun h42 => ?_)
       ·skip
        refine AW.seq ?_
        refine AW.region ?_
        refine AL.ra ?_
        refine AL.nil ?_
        change AW _ _ _ _ _
        refine AW.ret ?_
        change ResA _ _ _ _ _
        refine res1 rfl (ResV.tmp rfl) rfl ?_
        rfl
       ·skip
        refine AW.skip ?_
        change AW _ _ _ _ _
        refine AW.seq ?_
        refine AW.region ?_
        obtain ⟨m, rfl⟩ : ∃ q : Nat, m = (q : Int) := ⟨m.toNat, by omega⟩
        obtain ⟨n, rfl⟩ : ∃ q : Nat, n = (q : Int) := ⟨n.toNat, by omega⟩
        have hal := frameN_len byteN (snapN m a); have hbl := frameN_len byteN (snapN n b); have hal2 := snapN_len m a; have hbl2 := snapN_len n b
        refine AL.op rfl (calloZ (od_new 2000 (by omega) 0) [0] ?_)
        rintro y os' ⟨rfl, rfl⟩
        refine AL.noZ ?_
        refine AL.rm ?_
        refine AL.r (rd_extract rfl rfl rfl) ?_
        refine AL.r (rd_extract rfl rfl rfl) ?_
        refine AL.ra ?_
        refine AL.ra ?_
        refine AL.nil ?_
        change AW _ _ _ _ _
        refine AW.seq ?_
        refine AW.region ?_
        refine AL.rm ?_
        refine AL.rm ?_
        refine AL.op rfl (AOpB.op (op_call (rtext_c m (by omega) a (by omega)) rfl (by kernel_rfl) rfl (none) ?_))
        rintro r rfl
        refine AL.no ?_
        refine AL.op rfl (AOpB.op (bs_set rfl ap_56 ze_29 rfl rfl ?_))
        refine AL.no ?_
        refine AL.op rfl (AOpB.op (op_call (known1 m a (by omega)) rfl (by kernel_rfl) rfl (some 3) ?_))
        rintro r rfl
        refine ⟨_, rfl, ?_⟩
        refine AL.no ?_
        refine AL.rm ?_
        refine AL.rm ?_
        refine AL.op rfl (AOpB.op (op_call (rtext_c n (by omega) b (by omega)) rfl (by kernel_rfl) rfl (none) ?_))
        rintro r rfl
        refine AL.no ?_
        refine AL.op rfl (AOpB.op (bs_set rfl ap_56 ze_29 rfl rfl ?_))
        refine AL.no ?_
        refine AL.op rfl (AOpB.op (op_call (known1 n b (by omega)) rfl (by kernel_rfl) rfl (none) ?_))
        rintro r rfl
        refine AL.no ?_
        refine AL.ra ?_
        refine AL.ra ?_
        refine AL.nil ?_
        change AW _ _ _ _ _
        refine AW.join (ι := List UInt8 × Nat) [57, 58, 59, 60] (fun ⟨x, q⟩ => [(13, .ow 3 q)]) [6, 7] (fun ⟨x, q⟩ => [(3, ⟨q, .own 5 1 (byA x)⟩)]) (fun ⟨x, q⟩ => x.length ≤ 400 ∧ (bh = true → slotN byteN x = (0, [])) ∧ (bh = false → x = frameN byteN (snapN m a))) ?_ ?_
        ·skip
         refine AW.seq ?_
         refine AW.region ?_
         refine AL.rm ?_
         refine AL.nil ?_
         change AW _ _ _ _ _
         refine AW.cd rfl (fun h57 => ?_) (fun h57 => ?_)
         ·skip
          refine AW.region ?_
          refine AL.rm ?_
          refine AL.op rfl (AOpB.op (bs_set rfl ap_29 ze_5 rfl rfl ?_))
          refine AL.no ?_
          refine AL.op rfl (op_append rfl ap_29 rfl rfl (src_s rfl) (by simp only [byA_len, List.length_cons, List.length_nil]; omega) (by simp only [byA_len, List.length_cons, List.length_nil]; omega) ?_)
          refine AL.no ?_
          refine AL.ra ?_
          refine AL.nil ?_
          refine ⟨(frameN byteN (snapN m a) ++ [0], 2), ⟨by simp; omega, fun _ => slot_behind (by omega) (by simp), fun h => (by rw [h57] at h; cases h)⟩, (by simp only [anys, upds, offs, List.set_cons_zero, List.set_cons_succ]; repeat (first | exact Wk.nil | refine Wk.same ?_ | refine Wk.any ?_)), (by simp only [anys, upds, offs, List.set_cons_zero, List.set_cons_succ]; repeat (first | exact Sk.nil _ | refine Sk.same _ ?_ | refine Sk.scr _ (by decide) ?_ | refine Sk.eq _ (by simp [byA]; rfl) ?_))⟩
         ·skip
          refine AW.skip ?_
          refine ⟨(frameN byteN (snapN m a), 1), ⟨by omega, fun h => (by rw [h57] at h; cases h), fun _ => rfl⟩, (by simp only [anys, upds, offs, List.set_cons_zero, List.set_cons_succ]; repeat (first | exact Wk.nil | refine Wk.same ?_ | refine Wk.any ?_)), (by simp only [anys, upds, offs, List.set_cons_zero, List.set_cons_succ]; repeat (first | exact Sk.nil _ | refine Sk.same _ ?_ | refine Sk.scr _ (by decide) ?_ | refine Sk.eq _ (by simp [byA]; rfl) ?_))⟩
        ·rintro ⟨x, q⟩ gs57 hJ57
         refine AW.norm (by simp only [anys, upds, offs, List.set_cons_zero, List.set_cons_succ]; rfl) (by (try simp only [anys, upds, offs, List.set_cons_zero, List.set_cons_succ]); (try rfl)) ?_
         (try dsimp only at hJ57)
         change AW _ _ _ _ _
         refine AW.seq ?_
         refine AW.region ?_
         obtain ⟨hx1, hx2, hx3⟩ := hJ57
         obtain ⟨g1, g2, g3, g4, g5⟩ := fD_ok x (frameN byteN (snapN n b)) hx1 (by omega)
         have hs1 : slotN byteN ((fD2 x (frameN byteN (snapN n b))).n 1) = (n, b) := (by rw [g5]; exact slot_snap (by omega) (by omega))
         refine AL.settle 13 rfl rfl (by first | rfl | exact cont_owM _ _ _ _) ?_
         refine AL.no ?_
         refine AL.rm ?_
         refine AL.rm ?_
         refine AL.op rfl (calloZ (ok_append (k := 0) (d := newD 2000) (okNew (by omega)) (by omega) 1 0 x (by omega)) [0] ?_)
         rintro y os' ⟨rfl, rfl⟩
         refine AL.noZ ?_
         refine AL.nil ?_
         change AW _ _ _ _ _
         refine AW.seq ?_
         refine AW.region ?_
         refine AL.rm ?_
         refine AL.rm ?_
         refine AL.op rfl (calloZ (ok_append (k := 1) (d := fD1 x) g1 (by omega) 1 1 (frameN byteN (snapN n b)) (by omega)) [0] ?_)
         rintro y os' ⟨rfl, rfl⟩
         refine AL.noZ ?_
         refine AL.nil ?_
         change AW _ _ _ _ _
         refine AW.seq ?_
         refine AW.region ?_
         refine AL.rm ?_
         refine AL.op rfl (AOpB.op (op_call (made_c) rfl (by kernel_rfl) rfl (none) ?_))
         rintro r rfl
         refine AL.no ?_
         refine AL.op rfl (calloZ (sopen_v byteN byte_tab (fD2 x (frameN byteN (snapN n b))) g2 (by omega) 1 0 0 (by omega) g3 rfl (openS_file _ _ 0).1 (openS_file _ _ 0).2) [0, 1] ?_)
         rintro y os' ⟨rfl, rfl⟩
         refine AL.noZ ?_
         refine AL.rm ?_
         refine AL.r (rd_extract rfl rfl rfl) ?_
         refine AL.r (rd_extract rfl rfl rfl) ?_
         refine AL.ra ?_
         refine AL.ra ?_
         refine AL.nil ?_
         change AW _ _ _ _ _
         refine AW.seq ?_
         refine AW.seq ?_
         refine AW.region ?_
         refine AL.rm ?_
         refine AL.r (rd_bin rfl rfl rfl (fun _ => rfl)) ?_
         refine AL.nil ?_
         change AW _ _ _ _ _
         refine AW.cond_f rfl ?_
         refine AW.skip ?_
         change AW _ _ _ _ _
         refine AW.seq ?_
         refine AW.seq ?_
         refine AW.region ?_
         refine AL.rm ?_
         refine AL.r (rd_un rfl rfl (fun _ => rfl)) ?_
         refine AL.rm ?_
         refine AL.fk (d := 77) rfl (fun h77 => ?_) (fun h77 => ?_)
         ·skip
          refine AL.n ?_
          refine AL.ro (rd_move rfl rfl) ?_
          refine AL.ro (rd_move rfl rfl) ?_
          refine AL.ro (rd_bin rfl rfl rfl (fun _ => rfl)) ?_
          refine AL.r (rd_pick_t rfl rfl rfl) ?_
          refine AL.nil ?_
          change AW _ _ _ _ _
          refine AW.cd rfl (fun h81 => ?_) (fun h81 => ?_)
          ·skip
           refine AW.seq ?_
           refine AW.drawA (by kernel_rfl) ?_
           obtain ⟨v1, v2⟩ := fo1 (d := fD2 x (frameN byteN (snapN n b))) (m := m) (n := n) (a := a) (b := b) (by rw [g4, hx3 (by simpa using h77)]; exact slot_snap (by omega) (by omega)) hs1 (by omega) (by omega)
           refine ADA.r 0 rfl (ARdP.a (rdP_move rfl rfl)) rfl ?_
           refine ADA.r 2 rfl (ARdP.a (rdP_move rfl rfl)) rfl ?_
           refine ADA.b ?_
           refine ADB.mv 1 rfl (calloZ (lval (sepoch_c 1 1 byteN (openS byteN (fD2 x (frameN byteN (snapN n b))) 0) (fD2 x (frameN byteN (snapN n b)))) v1) [1, 0] ?_)
           rintro y os' ⟨rfl, rfl⟩
           refine ADB.noZ ?_
           refine ADB.r 3 rfl (rdP_bin rfl rfl rfl (fun _ => rfl)) rfl ?_
           refine ADB.r 4 rfl (rdP_move rfl rfl) rfl ?_
           refine ADB.fk (d := 86) rfl (fun h86 => ?_) (fun h86 => ?_)
           ·skip
            refine ADB.n ?_
            refine ADB.r 5 rfl (rdP_move rfl rfl) ⟨_, _, rfl, rfl, rfl⟩ ?_
            refine ADB.r 8 rfl (rdP_move rfl rfl) ⟨_, _, rfl, rfl, rfl⟩ ?_
            refine ADB.all (is := [6, 9]) (by kernel_rfl) (by simp) ?_
            intro i hi
            simp only [List.mem_cons, List.not_mem_nil, or_false] at hi
            rcases hi with rfl | rfl
            ·skip
             refine ⟨_, rfl, ⟨_, _, rfl, rfl, rfl⟩, calloZ (sbytes_v 1 1 byteN (openS byteN (fD2 x (frameN byteN (snapN n b))) 0) (fD2 x (frameN byteN (snapN n b))) v2 (by omega)) [1, 0] ?_⟩
             rintro y os' ⟨rfl, rfl⟩
             refine ADB.noZ ?_
             refine ADB.all (is := [7, 9]) (by kernel_rfl) (by simp) ?_
             intro i hi
             simp only [List.mem_cons, List.not_mem_nil, or_false] at hi
             rcases hi with rfl | rfl
             ·skip
              refine ⟨_, rfl, ⟨_, _, rfl, rfl, rfl⟩, AOpB.op (ARd.opB (rd_b2s rfl (by kernel_rfl) (src_s rfl)) ?_)⟩
              refine ADB.n ?_
              refine ADB.mv 9 rfl (AOpB.op (ARd.opB (rd_b2s rfl (by kernel_rfl) (src_s rfl)) ?_))
              refine ADB.n ?_
              refine ADB.r 10 rfl (rdP_seq rfl rfl rfl) ⟨_, _, rfl, rfl, rfl⟩ ?_
              refine ADB.r 11 rfl (rdP_pick_t rfl rfl rfl) rfl ?_
              refine ADB.r 12 rfl (rdP_assign rfl rfl) rfl ?_
              refine ADB.done (by kernel_rfl) ?_
              change AW _ _ _ _ _
              refine AW.ret ?_
              change ResA _ _ _ _ _
              refine res1 rfl (ResV.tmp rfl) rfl ?_
              simp
             ·skip
              refine ⟨_, rfl, ⟨_, _, rfl, rfl, rfl⟩, AOpB.op (ARd.opB (rd_b2s rfl (by kernel_rfl) (src_s rfl)) ?_)⟩
              refine ADB.n ?_
              refine ADB.mv 7 rfl (AOpB.op (ARd.opB (rd_b2s rfl (by kernel_rfl) (src_s rfl)) ?_))
              refine ADB.n ?_
              refine ADB.r 10 rfl (rdP_seq rfl rfl rfl) ⟨_, _, rfl, rfl, rfl⟩ ?_
              refine ADB.r 11 rfl (rdP_pick_t rfl rfl rfl) rfl ?_
              refine ADB.r 12 rfl (rdP_assign rfl rfl) rfl ?_
              refine ADB.done (by kernel_rfl) ?_
              change AW _ _ _ _ _
              refine AW.ret ?_
              change ResA _ _ _ _ _
              refine res1 rfl (ResV.tmp rfl) rfl ?_
              simp
            ·skip
             refine ⟨_, rfl, ⟨_, _, rfl, rfl, rfl⟩, AOpB.op (ARd.opB (rd_b2s rfl (by kernel_rfl) (src_s rfl)) ?_)⟩
             refine ADB.n ?_
             refine ADB.mv 6 rfl (calloZ (sbytes_v 1 1 byteN (openS byteN (fD2 x (frameN byteN (snapN n b))) 0) (fD2 x (frameN byteN (snapN n b))) v2 (by omega)) [1, 0] ?_)
             rintro y os' ⟨rfl, rfl⟩
             refine ADB.noZ ?_
             refine ADB.mv 7 rfl (AOpB.op (ARd.opB (rd_b2s rfl (by kernel_rfl) (src_s rfl)) ?_))
             refine ADB.n ?_
             refine ADB.r 10 rfl (rdP_seq rfl rfl rfl) ⟨_, _, rfl, rfl, rfl⟩ ?_
             refine ADB.r 11 rfl (rdP_pick_t rfl rfl rfl) rfl ?_
             refine ADB.r 12 rfl (rdP_assign rfl rfl) rfl ?_
             refine ADB.done (by kernel_rfl) ?_
             change AW _ _ _ _ _
             refine AW.ret ?_
             change ResA _ _ _ _ _
             refine res1 rfl (ResV.tmp rfl) rfl ?_
             simp
           ·skip
            exact (h86 trivial).elim
          ·skip
           refine AW.skip ?_
           change AW _ _ _ _ _
           refine AW.seq ?_
           refine AW.drawA (by kernel_rfl) ?_
           obtain ⟨v1, v2⟩ := fo3 (d := fD2 x (frameN byteN (snapN n b))) (m := m) (n := n) (a := a) (b := b) (bh := bh) (by rw [g4]; exact hx2) (by rw [g4]; intro h; rw [hx3 h]; exact slot_snap (by omega) (by omega)) hs1 (by omega) (by intro h; simp_all)
           refine ADA.r 0 rfl (ARdP.a (rdP_move rfl rfl)) rfl ?_
           refine ADA.r 2 rfl (ARdP.a (rdP_move rfl rfl)) rfl ?_
           refine ADA.b ?_
           refine ADB.mv 1 rfl (calloZ (lval (sepoch_c 1 1 byteN (openS byteN (fD2 x (frameN byteN (snapN n b))) 0) (fD2 x (frameN byteN (snapN n b)))) v1) [1, 0] ?_)
           rintro y os' ⟨rfl, rfl⟩
           refine ADB.noZ ?_
           refine ADB.r 3 rfl (rdP_bin rfl rfl rfl (fun _ => rfl)) rfl ?_
           refine ADB.r 4 rfl (rdP_move rfl rfl) rfl ?_
           refine ADB.fk (d := 98) rfl (fun h98 => ?_) (fun h98 => ?_)
           ·skip
            refine ADB.n ?_
            refine ADB.r 5 rfl (rdP_move rfl rfl) ⟨_, _, rfl, rfl, rfl⟩ ?_
            refine ADB.r 8 rfl (rdP_move rfl rfl) ⟨_, _, rfl, rfl, rfl⟩ ?_
            refine ADB.all (is := [6, 9]) (by kernel_rfl) (by simp) ?_
            intro i hi
            simp only [List.mem_cons, List.not_mem_nil, or_false] at hi
            rcases hi with rfl | rfl
            ·skip
             refine ⟨_, rfl, ⟨_, _, rfl, rfl, rfl⟩, calloZ (sbytes_v 1 1 byteN (openS byteN (fD2 x (frameN byteN (snapN n b))) 0) (fD2 x (frameN byteN (snapN n b))) v2 (by omega)) [1, 0] ?_⟩
             rintro y os' ⟨rfl, rfl⟩
             refine ADB.noZ ?_
             refine ADB.all (is := [7, 9]) (by kernel_rfl) (by simp) ?_
             intro i hi
             simp only [List.mem_cons, List.not_mem_nil, or_false] at hi
             rcases hi with rfl | rfl
             ·skip
              refine ⟨_, rfl, ⟨_, _, rfl, rfl, rfl⟩, AOpB.op (ARd.opB (rd_b2s rfl (by kernel_rfl) (src_s rfl)) ?_)⟩
              refine ADB.n ?_
              refine ADB.mv 9 rfl (AOpB.op (ARd.opB (rd_b2s rfl (by kernel_rfl) (src_s rfl)) ?_))
              refine ADB.n ?_
              refine ADB.r 10 rfl (rdP_seq rfl rfl rfl) ⟨_, _, rfl, rfl, rfl⟩ ?_
              refine ADB.r 11 rfl (rdP_pick_t rfl rfl rfl) rfl ?_
              refine ADB.r 12 rfl (rdP_assign rfl rfl) rfl ?_
              refine ADB.done (by kernel_rfl) ?_
              change AW _ _ _ _ _
              refine AW.ret ?_
              change ResA _ _ _ _ _
              refine res1 rfl (ResV.tmp rfl) rfl ?_
              simp
             ·skip
              refine ⟨_, rfl, ⟨_, _, rfl, rfl, rfl⟩, AOpB.op (ARd.opB (rd_b2s rfl (by kernel_rfl) (src_s rfl)) ?_)⟩
              refine ADB.n ?_
              refine ADB.mv 7 rfl (AOpB.op (ARd.opB (rd_b2s rfl (by kernel_rfl) (src_s rfl)) ?_))
              refine ADB.n ?_
              refine ADB.r 10 rfl (rdP_seq rfl rfl rfl) ⟨_, _, rfl, rfl, rfl⟩ ?_
              refine ADB.r 11 rfl (rdP_pick_t rfl rfl rfl) rfl ?_
              refine ADB.r 12 rfl (rdP_assign rfl rfl) rfl ?_
              refine ADB.done (by kernel_rfl) ?_
              change AW _ _ _ _ _
              refine AW.ret ?_
              change ResA _ _ _ _ _
              refine res1 rfl (ResV.tmp rfl) rfl ?_
              simp
            ·skip
             refine ⟨_, rfl, ⟨_, _, rfl, rfl, rfl⟩, AOpB.op (ARd.opB (rd_b2s rfl (by kernel_rfl) (src_s rfl)) ?_)⟩
             refine ADB.n ?_
             refine ADB.mv 6 rfl (calloZ (sbytes_v 1 1 byteN (openS byteN (fD2 x (frameN byteN (snapN n b))) 0) (fD2 x (frameN byteN (snapN n b))) v2 (by omega)) [1, 0] ?_)
             rintro y os' ⟨rfl, rfl⟩
             refine ADB.noZ ?_
             refine ADB.mv 7 rfl (AOpB.op (ARd.opB (rd_b2s rfl (by kernel_rfl) (src_s rfl)) ?_))
             refine ADB.n ?_
             refine ADB.r 10 rfl (rdP_seq rfl rfl rfl) ⟨_, _, rfl, rfl, rfl⟩ ?_
             refine ADB.r 11 rfl (rdP_pick_t rfl rfl rfl) rfl ?_
             refine ADB.r 12 rfl (rdP_assign rfl rfl) rfl ?_
             refine ADB.done (by kernel_rfl) ?_
             change AW _ _ _ _ _
             refine AW.ret ?_
             change ResA _ _ _ _ _
             refine res1 rfl (ResV.tmp rfl) rfl ?_
             simp
           ·skip
            exact (h98 trivial).elim
         ·skip
          refine AL.n ?_
          refine AL.rf ?_
          refine AL.rf ?_
          refine AL.rf ?_
          refine AL.r (rd_pick_f rfl rfl rfl) ?_
          refine AL.nil ?_
          change AW _ _ _ _ _
          refine AW.cond_f rfl ?_
          refine AW.skip ?_
          change AW _ _ _ _ _
          refine AW.seq ?_
          refine AW.drawA (by kernel_rfl) ?_
          obtain ⟨v1, v2⟩ := fo3 (d := fD2 x (frameN byteN (snapN n b))) (m := m) (n := n) (a := a) (b := b) (bh := bh) (by rw [g4]; exact hx2) (by rw [g4]; intro h; rw [hx3 h]; exact slot_snap (by omega) (by omega)) hs1 (by omega) (by intro h; simp_all)
          refine ADA.r 0 rfl (ARdP.a (rdP_move rfl rfl)) rfl ?_
          refine ADA.r 2 rfl (ARdP.a (rdP_move rfl rfl)) rfl ?_
          refine ADA.b ?_
          refine ADB.mv 1 rfl (calloZ (lval (sepoch_c 1 1 byteN (openS byteN (fD2 x (frameN byteN (snapN n b))) 0) (fD2 x (frameN byteN (snapN n b)))) v1) [1, 0] ?_)
          rintro y os' ⟨rfl, rfl⟩
          refine ADB.noZ ?_
          refine ADB.r 3 rfl (rdP_bin rfl rfl rfl (fun _ => rfl)) rfl ?_
          refine ADB.r 4 rfl (rdP_move rfl rfl) rfl ?_
          refine ADB.fk (d := 98) rfl (fun h98 => ?_) (fun h98 => ?_)
          ·skip
           refine ADB.n ?_
           refine ADB.r 5 rfl (rdP_move rfl rfl) ⟨_, _, rfl, rfl, rfl⟩ ?_
           refine ADB.r 8 rfl (rdP_move rfl rfl) ⟨_, _, rfl, rfl, rfl⟩ ?_
           refine ADB.all (is := [6, 9]) (by kernel_rfl) (by simp) ?_
           intro i hi
           simp only [List.mem_cons, List.not_mem_nil, or_false] at hi
           rcases hi with rfl | rfl
           ·skip
            refine ⟨_, rfl, ⟨_, _, rfl, rfl, rfl⟩, calloZ (sbytes_v 1 1 byteN (openS byteN (fD2 x (frameN byteN (snapN n b))) 0) (fD2 x (frameN byteN (snapN n b))) v2 (by omega)) [1, 0] ?_⟩
            rintro y os' ⟨rfl, rfl⟩
            refine ADB.noZ ?_
            refine ADB.all (is := [7, 9]) (by kernel_rfl) (by simp) ?_
            intro i hi
            simp only [List.mem_cons, List.not_mem_nil, or_false] at hi
            rcases hi with rfl | rfl
            ·skip
             refine ⟨_, rfl, ⟨_, _, rfl, rfl, rfl⟩, AOpB.op (ARd.opB (rd_b2s rfl (by kernel_rfl) (src_s rfl)) ?_)⟩
             refine ADB.n ?_
             refine ADB.mv 9 rfl (AOpB.op (ARd.opB (rd_b2s rfl (by kernel_rfl) (src_s rfl)) ?_))
             refine ADB.n ?_
             refine ADB.r 10 rfl (rdP_seq rfl rfl rfl) ⟨_, _, rfl, rfl, rfl⟩ ?_
             refine ADB.r 11 rfl (rdP_pick_t rfl rfl rfl) rfl ?_
             refine ADB.r 12 rfl (rdP_assign rfl rfl) rfl ?_
             refine ADB.done (by kernel_rfl) ?_
             change AW _ _ _ _ _
             refine AW.ret ?_
             change ResA _ _ _ _ _
             refine res1 rfl (ResV.tmp rfl) rfl ?_
             simp
            ·skip
             refine ⟨_, rfl, ⟨_, _, rfl, rfl, rfl⟩, AOpB.op (ARd.opB (rd_b2s rfl (by kernel_rfl) (src_s rfl)) ?_)⟩
             refine ADB.n ?_
             refine ADB.mv 7 rfl (AOpB.op (ARd.opB (rd_b2s rfl (by kernel_rfl) (src_s rfl)) ?_))
             refine ADB.n ?_
             refine ADB.r 10 rfl (rdP_seq rfl rfl rfl) ⟨_, _, rfl, rfl, rfl⟩ ?_
             refine ADB.r 11 rfl (rdP_pick_t rfl rfl rfl) rfl ?_
             refine ADB.r 12 rfl (rdP_assign rfl rfl) rfl ?_
             refine ADB.done (by kernel_rfl) ?_
             change AW _ _ _ _ _
             refine AW.ret ?_
             change ResA _ _ _ _ _
             refine res1 rfl (ResV.tmp rfl) rfl ?_
             simp
           ·skip
            refine ⟨_, rfl, ⟨_, _, rfl, rfl, rfl⟩, AOpB.op (ARd.opB (rd_b2s rfl (by kernel_rfl) (src_s rfl)) ?_)⟩
            refine ADB.n ?_
            refine ADB.mv 6 rfl (calloZ (sbytes_v 1 1 byteN (openS byteN (fD2 x (frameN byteN (snapN n b))) 0) (fD2 x (frameN byteN (snapN n b))) v2 (by omega)) [1, 0] ?_)
            rintro y os' ⟨rfl, rfl⟩
            refine ADB.noZ ?_
            refine ADB.mv 7 rfl (AOpB.op (ARd.opB (rd_b2s rfl (by kernel_rfl) (src_s rfl)) ?_))
            refine ADB.n ?_
            refine ADB.r 10 rfl (rdP_seq rfl rfl rfl) ⟨_, _, rfl, rfl, rfl⟩ ?_
            refine ADB.r 11 rfl (rdP_pick_t rfl rfl rfl) rfl ?_
            refine ADB.r 12 rfl (rdP_assign rfl rfl) rfl ?_
            refine ADB.done (by kernel_rfl) ?_
            change AW _ _ _ _ _
            refine AW.ret ?_
            change ResA _ _ _ _ _
            refine res1 rfl (ResV.tmp rfl) rfl ?_
            simp
          ·skip
           exact (h98 trivial).elim
theorem walk_SlotsFirst (w : World) (a0 : Int) (w0 : (Lit.int .i64 a0).wf = true) (a1 : Int) (w1 : (Lit.int .i64 a1).wf = true) (v2 : Value) (b2 : List UInt8) (hb2 : b2.length ≤ maxLen) (rp2 : RepS AnyB w v2 (.sl (byA b2))) (v3 : Value) (b3 : List UInt8) (hb3 : b3.length ≤ maxLen) (rp3 : RepS AnyB w v3 (.sl (byA b3))) (a4 : Bool) :
    Calls Try.prog 9 #[.int .i64 a0, .int .i64 a1, v2, v3, .bool a4] w fun e w' => e = .returned (.bool true) ∧ Below w.heap.size w w' :=
  (first_c a0 a1 (by have := bounds_i64 w0; omega) (by have := bounds_i64 w1; omega) b2 b3 a4).law (vs := [.int .i64 a0, .int .i64 a1, v2, v3, .bool a4]) rfl (rep_cons (.sc _) (rep_cons (.sc _) (rep_cons rp2 (rep_cons rp3 (rep_cons (.sc _) rep_nil)))))
end Go.Proofs.Ytgjpeldgjpgbcaa
