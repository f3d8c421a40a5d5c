/- Texts of the proof of talkRight_holds, put together by a program: TxB. -/
import Derived.Test.YtlapcfnmmpbeeaaGreatPR36
set_option linter.unusedSimpArgs false
set_option linter.unusedVariables false
namespace Go.Proofs.YtlapcfnmmpbeeaaGreat
set_option maxRecDepth 100000
set_option maxRecDepth 100000
open Go.RowKit
structure V6D.Wf (v : V6D) : Prop where
  a : i64R v.a
  b : i64R v.b
  c : i64R v.c
  d : i64R v.d
  e : i64R v.e
  f : i64R v.f
def vecP (f : Int) (v : V6D) : List UInt8 := putN f v.a ++ putN f v.b ++ putN f v.c ++ putN f v.d ++ putN f v.e ++ putN f v.f
theorem vecP_len (f : Int) (v : V6D) : (vecP f v).length ≤ 60 := by
  have := putN_len f v.a; have := putN_len f v.b; have := putN_len f v.c; have := putN_len f v.d; have := putN_len f v.e; have := putN_len f v.f
  unfold vecP
  simp only [List.length_append]; omega
theorem vput_c (b : List UInt8) (f : Int) (v : V6D) (hb : b.length ≤ 1000000) (hf : i64R f) (hw : v.Wf) : AC Tryz.prog 45 [.sl (byA b), .sc (.int .i64 f), v.av] (fun r => r = .s (.sl (byA (b ++ vecP f v)))) := by
  have a1 := putN_len f v.a; have a2 := putN_len f v.b; have a3 := putN_len f v.c; have a4 := putN_len f v.d; have a5 := putN_len f v.e; have a6 := vecP_len f v
  have hbb := byA_len b
  change AC _ _ [.sl (byA b), .sc (.int .i64 f), .ag [AI v.a, AI v.b, AI v.c, AI v.d, AI v.e, AI v.f]] _; refine AC.of' 19 1 Tryz.func45 rfl ?_; change AW _ _ _ _ [TK.mk 0 .off]; refine AW.seq (AW.region ?_); refine AL.op rfl (AOpB.op (op_box 0 rfl rfl rfl rfl rfl ?_)); refine AL.n ?_; refine AL.ra ?_; refine AL.nil ?_; change AW _ _ _ _ _; refine AW.seq (AW.region ?_); refine AL.ra ?_; refine AL.nil ?_; change AW _ _ _ _ _; refine AW.seq ?_; refine AW.seq (AW.region ?_); refine AL.rm ?_; refine AL.nil ?_; change AW _ _ _ _ _; refine AW.block ?_; refine AW.unroll 7 ?_; change AW _ _ _ _ _; refine AW.seq (AW.region ?_); refine AL.r (rd_bin rfl rfl rfl (fun _ => rfl)) ?_; refine AL.nil ?_; change AW _ _ _ _ _; refine AW.seq ?_; refine AW.cond_t rfl ?_; refine AW.skip ?_; change AW _ _ _ _ _; refine AW.seq ?_; refine AW.block ?_; refine AW.seq (AW.region ?_)
  refine AL.rm ?_; refine AL.ra ?_; refine AL.nil ?_; change AW _ _ _ _ _; refine AW.region ?_; (iterate 3 refine AL.rm ?_); refine AL.r (rd_iaddr_bx_ 0 rfl ar_23 rfl rfl rfl) ?_; refine AL.r (rd_load_bx rfl ag_3 rfl rfl rfl) ?_; refine AL.op rfl (AOpB.op (op_call (cput_ns f v.a hf hw.a) rfl (by kernel_rfl) rfl (none) ?_)); rintro r rfl; refine AL.n ?_; refine AL.ra ?_; refine AL.nil ?_; change AW _ _ _ _ _; refine AW.region ?_; refine AL.r (rd_arith_add rfl rfl rfl (rfl : _ = (1 : Int))) ?_; refine AL.rm ?_; refine AL.nil ?_; change AW _ _ _ _ _; refine AW.seq (AW.region ?_); refine AL.r (rd_bin rfl rfl rfl (fun _ => rfl)) ?_; refine AL.nil ?_; change AW _ _ _ _ _; refine AW.seq ?_; refine AW.cond_t rfl ?_; refine AW.skip ?_; change AW _ _ _ _ _; refine AW.seq ?_; refine AW.block ?_; refine AW.seq (AW.region ?_); refine AL.rm ?_; refine AL.ra ?_; refine AL.nil ?_
  change AW _ _ _ _ _; refine AW.region ?_; (iterate 3 refine AL.rm ?_); refine AL.r (rd_iaddr_bx_ 1 rfl ar_23 rfl rfl rfl) ?_; refine AL.r (rd_load_bx rfl ag_3 rfl rfl rfl) ?_; refine AL.op rfl (AOpB.op (op_call (cput_s (putN f v.a) f v.b hf hw.b (by omega)) rfl (by kernel_rfl) rfl (none) ?_)); rintro r rfl; refine AL.n ?_; refine AL.ra ?_; refine AL.nil ?_; change AW _ _ _ _ _; refine AW.region ?_; refine AL.r (rd_arith_add rfl rfl rfl (rfl : _ = (2 : Int))) ?_; refine AL.rm ?_; refine AL.nil ?_; change AW _ _ _ _ _; refine AW.seq (AW.region ?_); refine AL.r (rd_bin rfl rfl rfl (fun _ => rfl)) ?_; refine AL.nil ?_; change AW _ _ _ _ _; refine AW.seq ?_; refine AW.cond_t rfl ?_; refine AW.skip ?_; change AW _ _ _ _ _; refine AW.seq ?_; refine AW.block ?_; refine AW.seq (AW.region ?_); refine AL.rm ?_; refine AL.ra ?_; refine AL.nil ?_; change AW _ _ _ _ _
  refine AW.region ?_; (iterate 3 refine AL.rm ?_); refine AL.r (rd_iaddr_bx_ 2 rfl ar_23 rfl rfl rfl) ?_; refine AL.r (rd_load_bx rfl ag_3 rfl rfl rfl) ?_; refine AL.op rfl (AOpB.op (op_call (cput_s (putN f v.a ++ putN f v.b) f v.c hf hw.c (by simp only [List.length_append]; omega)) rfl (by kernel_rfl) rfl (none) ?_)); rintro r rfl; refine AL.n ?_; refine AL.ra ?_; refine AL.nil ?_; change AW _ _ _ _ _; refine AW.region ?_; refine AL.r (rd_arith_add rfl rfl rfl (rfl : _ = (3 : Int))) ?_; refine AL.rm ?_; refine AL.nil ?_; change AW _ _ _ _ _; refine AW.seq (AW.region ?_); refine AL.r (rd_bin rfl rfl rfl (fun _ => rfl)) ?_; refine AL.nil ?_; change AW _ _ _ _ _; refine AW.seq ?_; refine AW.cond_t rfl ?_; refine AW.skip ?_; change AW _ _ _ _ _; refine AW.seq ?_; refine AW.block ?_; refine AW.seq (AW.region ?_); refine AL.rm ?_; refine AL.ra ?_; refine AL.nil ?_
  change AW _ _ _ _ _; refine AW.region ?_; (iterate 3 refine AL.rm ?_); refine AL.r (rd_iaddr_bx_ 3 rfl ar_23 rfl rfl rfl) ?_; refine AL.r (rd_load_bx rfl ag_3 rfl rfl rfl) ?_; refine AL.op rfl (AOpB.op (op_call (cput_s (putN f v.a ++ putN f v.b ++ putN f v.c) f v.d hf hw.d (by simp only [List.length_append]; omega)) rfl (by kernel_rfl) rfl (none) ?_)); rintro r rfl; refine AL.n ?_; refine AL.ra ?_; refine AL.nil ?_; change AW _ _ _ _ _; refine AW.region ?_; refine AL.r (rd_arith_add rfl rfl rfl (rfl : _ = (4 : Int))) ?_; refine AL.rm ?_; refine AL.nil ?_; change AW _ _ _ _ _; refine AW.seq (AW.region ?_); refine AL.r (rd_bin rfl rfl rfl (fun _ => rfl)) ?_; refine AL.nil ?_; change AW _ _ _ _ _; refine AW.seq ?_; refine AW.cond_t rfl ?_; refine AW.skip ?_; change AW _ _ _ _ _; refine AW.seq ?_; refine AW.block ?_; refine AW.seq (AW.region ?_); refine AL.rm ?_
  refine AL.ra ?_; refine AL.nil ?_; change AW _ _ _ _ _; refine AW.region ?_; (iterate 3 refine AL.rm ?_); refine AL.r (rd_iaddr_bx_ 4 rfl ar_23 rfl rfl rfl) ?_; refine AL.r (rd_load_bx rfl ag_3 rfl rfl rfl) ?_; refine AL.op rfl (AOpB.op (op_call (cput_s (putN f v.a ++ putN f v.b ++ putN f v.c ++ putN f v.d) f v.e hf hw.e (by simp only [List.length_append]; omega)) rfl (by kernel_rfl) rfl (none) ?_)); rintro r rfl; refine AL.n ?_; refine AL.ra ?_; refine AL.nil ?_; change AW _ _ _ _ _; refine AW.region ?_; refine AL.r (rd_arith_add rfl rfl rfl (rfl : _ = (5 : Int))) ?_; refine AL.rm ?_; refine AL.nil ?_; change AW _ _ _ _ _; refine AW.seq (AW.region ?_); refine AL.r (rd_bin rfl rfl rfl (fun _ => rfl)) ?_; refine AL.nil ?_; change AW _ _ _ _ _; refine AW.seq ?_; refine AW.cond_t rfl ?_; refine AW.skip ?_; change AW _ _ _ _ _; refine AW.seq ?_; refine AW.block ?_
  refine AW.seq (AW.region ?_); refine AL.rm ?_; refine AL.ra ?_; refine AL.nil ?_; change AW _ _ _ _ _; refine AW.region ?_; (iterate 3 refine AL.rm ?_); refine AL.r (rd_iaddr_bx_ 5 rfl ar_23 rfl rfl rfl) ?_; refine AL.r (rd_load_bx rfl ag_3 rfl rfl rfl) ?_; refine AL.op rfl (AOpB.op (op_call (cput_s (putN f v.a ++ putN f v.b ++ putN f v.c ++ putN f v.d ++ putN f v.e) f v.f hf hw.f (by simp only [List.length_append]; omega)) rfl (by kernel_rfl) rfl (none) ?_)); rintro r rfl; refine AL.n ?_; refine AL.ra ?_; refine AL.nil ?_; change AW _ _ _ _ _; refine AW.region ?_; refine AL.r (rd_arith_add rfl rfl rfl (rfl : _ = (6 : Int))) ?_; refine AL.rm ?_; refine AL.nil ?_; change AW _ _ _ _ _; refine AW.seq (AW.region ?_); refine AL.r (rd_bin rfl rfl rfl (fun _ => rfl)) ?_; refine AL.nil ?_; change AW _ _ _ _ _; refine AW.seq ?_; refine AW.cond_f rfl ?_; refine AW.exit ?_
  change AW _ _ _ _ _; refine AW.seq (AW.region ?_); (iterate 2 refine AL.rm ?_); refine AL.op rfl (AOpB.op (op_call (join_c b (vecP f v) (by omega) (by omega)) rfl (by kernel_rfl) rfl (none) ?_)); rintro r rfl; refine AL.n ?_; refine AL.ra ?_; refine AL.nil ?_; change AW _ _ _ _ _; refine AW.ret ?_; change ResA _ _ _ _ _; refine res1 rfl (ResV.tmp rfl) rfl ?_; rfl
def lstP {α : Type} (p : α → List UInt8) (b : List UInt8) (f : Int) (l : List α) (k : Nat) : List UInt8 := b ++ putN f (l.length : Nat) ++ (l.take k).flatMap p
theorem lstP_len {α : Type} {p : α → List UInt8} {b : List UInt8} {f : Int} {l : List α} {m : Nat} (h : ∀ x ∈ l, (p x).length ≤ m) (k : Nat) (hk : k ≤ l.length) : (lstP p b f l k).length ≤ b.length + 10 + m * k := by
  have hn := putN_len f (l.length : Nat)
  have key : ∀ q : List α, (∀ x ∈ q, (p x).length ≤ m) → (q.flatMap p).length ≤ m * q.length := fun q => by
    induction q with
    | nil => intro _; simp
    | cons x q ih =>
      intro hq
      have h1 := hq x (by simp); have h2 := ih fun y hy => hq y (by simp [hy])
      simp only [List.flatMap_cons, List.length_append, List.length_cons, Nat.mul_succ]; omega
  have := key (l.take k) fun x hx => h x (List.mem_of_mem_take hx)
  rw [List.length_take, Nat.min_eq_left hk] at this
  unfold lstP
  simp only [List.length_append]; omega
section
variable (b : List UInt8) (f : Int) (hb : b.length ≤ 10000) (hf : i64R f) (h : okF f = true)
include hb hf
include h
end
end Go.Proofs.YtlapcfnmmpbeeaaGreat
