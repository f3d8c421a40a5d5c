/- A part of a proof. -/
import Derived.Test.YtlapcfnmmpbeeaaPT23
import Derived.Test.YtlapcfnmmpbeeaaPT24
set_option linter.unusedSimpArgs false
set_option linter.unusedVariables false
namespace Go.Proofs.Ytlapcfnmmpbeeaa
set_option maxRecDepth 100000
set_option maxRecDepth 100000
open Go.RowKit
theorem join_c (a b : List UInt8) (ha : a.length ≤ 1099511627776) (hb : b.length ≤ 1099511627776) : AC Try.prog 43 [.sl (byA a), .sl (byA b)] (fun r => r = .o 5 1 (byA (a ++ b))) := by
  have qa := byA_len a
  have qb := byA_len b
  refine AC.of' 16 3 Try.func43 rfl ?_; change AW _ _ _ _ [TK.mk 0 .off, TK.mk 0 .off, TK.mk 0 .off]; refine AW.g (AL.ra ?_); refine AL.nil (AW.g (AL.rm ?_)); refine AL.r (lN el_35) ?_; refine AL.rm ?_; refine AL.r (lN el_35) ?_; refine AL.r (rd_arith_add rfl rfl rfl (IntWalk.i64_in _ (by omega))) ?_; refine AL.oq (AOpB.op (op_make0 0 rfl ap_35 rfl rfl (show _ = ((a.length + b.length : Nat) : Int) by omega) (by omega) (by omega) rfl ?_)); refine AL.n ?_; refine AL.ra ?_; refine AL.nil (AW.g ?_); (iterate 2 refine AL.rm ?_); refine AL.oq (op_append rfl ap_35 rfl rfl (src_s rfl) (by first | omega | (simp; omega) | simp) (by first | omega | (simp; omega) | simp) ?_); refine AL.n ?_; refine AL.ra ?_; refine AL.nil (AW.g ?_); (iterate 2 refine AL.rm ?_); refine AL.oq (op_append rfl ap_35 rfl rfl (src_s rfl) (by first | omega | (simp; omega) | simp) (by first | omega | (simp; omega) | simp) ?_); refine AL.n ?_; refine AL.ra ?_; refine AL.nil (AW.ret (res1o rfl (ResV.tmp rfl) rfl ?_)); rw [List.nil_append, byA_app]
theorem putN_len (f z : Int) : (putN f z).length ≤ 10 := by
  unfold putN; split
  · rw [leB_len]; omega
  split
  · exact vary_len 9 _
  simp
theorem putN_ne {f z : Int} (h : f = 1 ∨ f = 2) : putN f z ≠ [] := by
  have : 0 < (putN f z).length := by
    unfold putN
    rcases h with rfl | rfl
    · rw [if_pos rfl, leB_len]; omega
    rw [if_neg (by decide), if_pos rfl]; exact vary_pos 9 _
  exact fun e => by rw [e] at this; simp at this
def okF (f : Int) : Bool := f == 1 || f == 2
theorem okF_iff {f : Int} : okF f = true ↔ f = 1 ∨ f = 2 := by unfold okF; simp
theorem cput_n (f z : Int) (hf : i64R f) (hz : i64R z) (h : okF f = true) : AC Try.prog 42 [.sl (byA []), .sc (.int .i64 f), .sc (.int .i64 z)] (fun r => r = .o 5 1 (byA (putN f z))) := by
  have := cput_o [] f z hf hz (by simp) (by rw [List.nil_append]; exact putN_ne (okF_iff.1 h))
  rwa [List.nil_append] at this
theorem cput_ns (f z : Int) (hf : i64R f) (hz : i64R z) : AC Try.prog 42 [.sl (byA []), .sc (.int .i64 f), .sc (.int .i64 z)] (fun r => r = .s (.sl (byA (putN f z)))) := by
  have := cput_s [] f z hf hz (by simp)
  rwa [List.nil_append] at this
def textP (f : Int) (s : Bytes) : List UInt8 := if okF f then putN f s.length ++ s else []
def tagP (f : Int) (t : TagD) : List UInt8 := putN f t.rep ++ putN f t.n
def refP (f : Int) (r : RefD) : List UInt8 := putN f r.scope ++ textP f r.group ++ textP f r.name
theorem textP_len (f : Int) (s : Bytes) : (textP f s).length ≤ 10 + s.length := by
  have := putN_len f s.length
  unfold textP
  split
  · rw [List.length_append]; omega
  simp
section
variable (b : List UInt8) (f : Int) (hb : b.length ≤ 549755813888) (hf : i64R f)
include hb hf
theorem pnum_c (z : Int) (hz : i64R z) : AC Try.prog 14 [.sl (byA b), .sc (.int .i64 f), .sc (.int .i64 z)] (fun r => r = .s (.sl (byA (b ++ putN f z)))) := by
  refine AC.of' 8 0 Try.func14 rfl ?_; change AW _ _ _ _ []; refine AW.g (AL.ra ?_); refine AL.nil (AW.g ?_); (iterate 3 refine AL.rm ?_); refine AL.cl (cput_s b f z hf hz (by omega)) ?_; refine AL.n ?_; refine AL.ra ?_; refine AL.nil (AW.ret (r1t ?_)); rfl
theorem ptext_c (s : Bytes) (hs : s.length ≤ 549755813000) : AC Try.prog 45 [.sl (byA b), .sc (.int .i64 f), AS s] (fun r => r = .s (.sl (byA (b ++ textP f s)))) := by
  have ht := putN_len f s.length
  refine AC.of' 17 2 Try.func45 rfl ?_; change AW _ _ _ _ [TK.mk 0 .off, TK.mk 0 .off]; refine AW.g (AL.ra ?_); refine AL.nil (AW.seq (AW.g (AL.rm ?_))); refine AL.cl (cright_c f) ?_; refine AL.n ?_; refine AL.r qu ?_; refine AL.nil (AW.cd rfl (fun h9 => ?_) (fun h9 => ?_))
  ·refine AW.g (AL.rm ?_); refine AL.cl (join_c b [] (by omega) (by simp)) ?_; refine AL.n ?_; refine AL.ra ?_; refine AL.nil (AW.ret (r1t ?_)); rw [textP, if_neg (by simp_all [okF])]
  refine AW.skip (AW.g ?_)
  have hF : okF f = true := (by unfold okF; simpa using h9)
  have hl := byA_len (putN f s.length)
  (iterate 3 refine AL.rm ?_); refine AL.r (rd_len_str rfl str_9 rfl) ?_; refine AL.oq (AOpB.op (op_call (cput_n f s.length hf ⟨by omega, by omega⟩ hF) rfl (by kernel_rfl) rfl (some 0) ?_)); rintro r rfl; refine ⟨_, rfl, ?_⟩; refine AL.n ?_; refine AL.rm ?_; refine AL.oq (op_append_str rfl Try.underlying35 (by kernel_rfl) str_9 rfl rfl rfl (by simp only [byA_len]; omega) ?_); refine AL.n ?_; refine AL.settle 18 rfl rfl (by first | rfl | exact cont_owM _ _ _ _) ?_; refine AL.no ?_; refine AL.cl (join_c b (putN f s.length ++ s) (by omega) (by rw [List.length_append]; omega)) ?_; refine AL.n ?_; refine AL.ra ?_; refine AL.nil (AW.ret (r1t ?_)); rw [textP, if_pos hF]
omit hf in
theorem pflag_c (x : Bool) : AC Try.prog 47 [.sl (byA b), AB x] (fun r => r = .s (.sl (byA (b ++ [if x then 1 else 0])))) := by
  refine AC.of' 10 2 Try.func47 rfl ?_; change AW _ _ _ _ [TK.mk 0 .off, TK.mk 0 .off]; refine AW.g (AL.ra ?_); refine AL.nil (AW.seq (AW.g (AL.rm ?_))); refine AL.nil (AW.cd rfl (fun h5 => ?_) (fun h5 => ?_))
  ·refine AW.g (AL.rm ?_); refine AL.oq (AOpB.op (bs_set rfl ap_35 ze_5 rfl rfl ?_)); refine AL.n ?_; refine AL.cl (join_c b [1] (by omega) (by simp)) ?_; refine AL.n ?_; refine AL.ra ?_; refine AL.nil (AW.ret (r1t ?_)); simp_all
  refine AW.skip (AW.g (AL.rm ?_)); refine AL.oq (AOpB.op (bs_set rfl ap_35 ze_5 rfl rfl ?_)); refine AL.n ?_; refine AL.cl (join_c b [0] (by omega) (by simp)) ?_; refine AL.n ?_; refine AL.ra ?_; refine AL.nil (AW.ret (r1t ?_)); simp_all
theorem ptag_c (t : TagD) (h1 : i64R t.rep) (h2 : i64R t.n) : AC Try.prog 17 [.sl (byA b), .sc (.int .i64 f), t.av] (fun r => r = .s (.sl (byA (b ++ tagP f t)))) := by
  have l1 := putN_len f t.rep
  have l2 := putN_len f t.n
  change AC _ _ [.sl (byA b), .sc (.int .i64 f), .ag [AI t.rep, AI t.n]] _; refine AC.of' 14 1 Try.func17 rfl ?_; change AW _ _ _ _ [TK.mk 0 .off]; refine AW.g (AL.oq (AOpB.op (oB 0 ?_))); refine AL.n ?_; refine AL.ra ?_; refine AL.nil (AW.seq (AW.draw (by kernel_rfl) ?_)); refine AD.r 0 rfl (rd_move rfl rfl) rfl ?_; refine AD.r 1 rfl (rd_move rfl rfl) rfl ?_; refine AD.r 2 rfl (qa fo_51_0) rfl ?_; refine AD.r 3 rfl (ql ag_3) rfl ?_; refine AD.r 5 rfl (rd_move rfl rfl) rfl ?_; refine AD.r 6 rfl (qa fo_51_1) rfl ?_; refine AD.r 7 rfl (ql ag_3) rfl ?_; refine AD.move 4 rfl (by kernel_rfl) rfl (op_call (cput_ns f t.rep hf h1) rfl (by kernel_rfl) rfl (none) ?_); rintro r rfl; refine AD.n ?_; refine AD.move 8 rfl (by kernel_rfl) rfl (op_call (cput_s (putN f t.rep) f t.n hf h2 (by omega)) rfl (by kernel_rfl) rfl (none) ?_); rintro r rfl; refine AD.n ?_; refine AD.move 9 rfl (by kernel_rfl) rfl (op_call (join_c b (putN f t.rep ++ putN f t.n) (by omega) (by rw [List.length_append]; omega)) rfl (by kernel_rfl) rfl (none) ?_); rintro r rfl; refine AD.n ?_; refine AD.r 10 rfl (rd_assign rfl rfl) rfl ?_; refine AD.done (by kernel_rfl) ?_; change AW _ _ _ _ _; refine AW.ret (r1t ?_); rfl
theorem pref_c (r : RefD) (h1 : i64R r.scope) (hg : r.group.length ≤ 1000000) (hn : r.name.length ≤ 1000000) : AC Try.prog 46 [.sl (byA b), .sc (.int .i64 f), r.av] (fun x => x = .s (.sl (byA (b ++ refP f r)))) := by
  have l1 := putN_len f r.scope
  have l2 := textP_len f r.group
  have l3 := textP_len f r.name
  change AC _ _ [.sl (byA b), .sc (.int .i64 f), .ag [AI r.scope, AS r.group, AS r.name]] _; refine AC.of' 22 1 Try.func46 rfl ?_; change AW _ _ _ _ [TK.mk 0 .off]; refine AW.g (AL.oq (AOpB.op (oB 0 ?_))); refine AL.n ?_; refine AL.ra ?_; refine AL.nil (AW.g (AL.rm ?_)); refine AL.r (qa fo_55_0) ?_; refine AL.r (ql ag_3) ?_; refine AL.cl (cput_ns f r.scope hf h1) ?_; refine AL.n ?_; refine AL.ra ?_; refine AL.nil (AW.g ?_); (iterate 2 refine AL.rm ?_); refine AL.r (qa fo_55_1) ?_; refine AL.r (ql ag_9) ?_; refine AL.oq (AOpB.op (op_call (ptext_c (putN f r.scope) f (by omega) hf r.group (by omega)) rfl (by kernel_rfl) rfl (none) ?_)); rintro r rfl; refine AL.n ?_; refine AL.ra ?_; refine AL.nil (AW.g ?_); (iterate 2 refine AL.rm ?_); refine AL.r (qa fo_55_2) ?_; refine AL.r (ql ag_9) ?_; refine AL.cl (ptext_c (putN f r.scope ++ textP f r.group) f (by rw [List.length_append]; omega) hf r.name (by omega)) ?_; refine AL.n ?_; refine AL.ra ?_; refine AL.nil (AW.g ?_); (iterate 2 refine AL.rm ?_); refine AL.cl (join_c b (refP f r) (by omega) (by unfold refP; simp only [List.length_append]; omega)) ?_; refine AL.n ?_; refine AL.ra ?_; refine AL.nil (AW.ret (r1t ?_))
  rfl
end
end Go.Proofs.Ytlapcfnmmpbeeaa
