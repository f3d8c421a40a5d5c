/- The pen, walked over abstract states: what is put, and a reader. Conditions: readers of fewer than 2^40 bytes, at a place within them. -/
import Derived.Test.YtpkjlmaphhileaaDoorCdB
import Derived.Test.YtpkjlmaphhileaaDoorOpD
import Derived.Test.YtpkjlmaphhileaaDoorJn
import Derived.Test.YtpkjlmaphhileaaDoorJa
import Derived.Test.YtpkjlmaphhileaaDoorApS
namespace Go.Proofs.YtpkjlmaphhileaaDoor
set_option linter.unusedSimpArgs false
set_option linter.unusedVariables false
set_option maxRecDepth 100000
set_option maxRecDepth 100000
open Go.RowKit

theorem join_c (a b : List UInt8) (ha : a.length ≤ 1099511627776) (hb : b.length ≤ 1099511627776) : AC Tryd.prog 49 [.sl (byA a), .sl (byA b)] (fun r => r = .o 5 1 (byA (a ++ b))) := by
  have qa := byA_len a
  have qb := byA_len b
  refine AC.of' 16 3 Tryd.func49 rfl ?_
  change AW _ _ _ _ [TK.mk 0 .off, TK.mk 0 .off, TK.mk 0 .off]
  refine AW.seq ?_
  refine AW.region ?_
  refine AL.ra ?_
  refine AL.nil ?_
  change AW _ _ _ _ _
  refine AW.seq ?_
  refine AW.region ?_
  refine AL.rm ?_
  refine AL.r (rd_len_sl rfl el_43 rfl) ?_
  refine AL.rm ?_
  refine AL.r (rd_len_sl rfl el_43 rfl) ?_
  refine AL.r (rd_arith_add rfl rfl rfl (IntWalk.i64_in _ (by omega))) ?_
  refine AL.op rfl (AOpB.op (op_make0 0 rfl ap_43 rfl rfl (show _ = ((a.length + b.length : Nat) : Int) by omega) (by omega) (by omega) rfl ?_))
  refine AL.n ?_
  refine AL.ra ?_
  refine AL.nil ?_
  change AW _ _ _ _ _
  refine AW.seq ?_
  refine AW.region ?_
  refine AL.rm ?_
  refine AL.rm ?_
  refine AL.op rfl (op_append rfl ap_43 rfl rfl (src_s rfl) (by first | omega | (simp; omega) | simp) (by first | omega | (simp; omega) | simp) ?_)
  refine AL.n ?_
  refine AL.ra ?_
  refine AL.nil ?_
  change AW _ _ _ _ _
  refine AW.seq ?_
  refine AW.region ?_
  refine AL.rm ?_
  refine AL.rm ?_
  refine AL.op rfl (op_append rfl ap_43 rfl rfl (src_s rfl) (by first | omega | (simp; omega) | simp) (by first | omega | (simp; omega) | simp) ?_)
  refine AL.n ?_
  refine AL.ra ?_
  refine AL.nil ?_
  change AW _ _ _ _ _
  refine AW.ret ?_
  change ResA _ _ _ _ _
  refine res1o rfl (ResV.tmp rfl) rfl ?_
  rw [List.nil_append, byA_app]
theorem putN_len (f z : Int) : (putN f z).length ≤ 10 := by
  unfold putN; split
  · rw [leB_len]; omega
  · split
    · exact vary_len 9 _
    · simp
theorem putN_ne {f z : Int} (h : f = 1 ∨ f = 2) : putN f z ≠ [] := by
  have : 0 < (putN f z).length := by
    unfold putN
    rcases h with rfl | rfl
    · rw [if_pos rfl, leB_len]; omega
    · rw [if_neg (by decide), if_pos rfl]; exact vary_pos 9 _
  exact fun e => by rw [e] at this; simp at this
def okF (f : Int) : Bool := f == 1 || f == 2
theorem okF_iff {f : Int} : okF f = true ↔ f = 1 ∨ f = 2 := by unfold okF; simp
theorem cput_n (f z : Int) (hf : i64R f) (hz : i64R z) (h : okF f = true) : AC Tryd.prog 58 [.sl (byA []), .sc (.int .i64 f), .sc (.int .i64 z)] (fun r => r = .o 5 1 (byA (putN f z))) := by
  have := cput_o [] f z hf hz (by simp) (by rw [List.nil_append]; exact putN_ne (okF_iff.1 h))
  rwa [List.nil_append] at this
theorem cput_ns (f z : Int) (hf : i64R f) (hz : i64R z) : AC Tryd.prog 58 [.sl (byA []), .sc (.int .i64 f), .sc (.int .i64 z)] (fun r => r = .s (.sl (byA (putN f z)))) := by
  have := cput_s [] f z hf hz (by simp)
  rwa [List.nil_append] at this
/-- A text as bytes. -/
def textP (f : Int) (s : Bytes) : List UInt8 := if okF f then putN f s.length ++ s else []
def tagP (f : Int) (t : TagD) : List UInt8 := putN f t.rep ++ putN f t.n
def refP (f : Int) (r : RefD) : List UInt8 := putN f r.scope ++ textP f r.group ++ textP f r.name
theorem textP_len (f : Int) (s : Bytes) : (textP f s).length ≤ 10 + s.length := by
  have := putN_len f s.length
  unfold textP
  split
  · rw [List.length_append]; omega
  · simp
section
variable (b : List UInt8) (f : Int) (hb : b.length ≤ 549755813888) (hf : i64R f)
include hb hf
theorem pnum_c (z : Int) (hz : i64R z) : AC Tryd.prog 42 [.sl (byA b), .sc (.int .i64 f), .sc (.int .i64 z)] (fun r => r = .s (.sl (byA (b ++ putN f z)))) := by
  refine AC.of' 8 0 Tryd.func42 rfl ?_
  change AW _ _ _ _ []
  refine AW.seq ?_
  refine AW.region ?_
  refine AL.ra ?_
  refine AL.nil ?_
  change AW _ _ _ _ _
  refine AW.seq ?_
  refine AW.region ?_
  refine AL.rm ?_
  refine AL.rm ?_
  refine AL.rm ?_
  refine AL.op rfl (AOpB.op (op_call (cput_s b f z hf hz (by omega)) rfl (by kernel_rfl) rfl (none) ?_))
  rintro r rfl
  refine AL.n ?_
  refine AL.ra ?_
  refine AL.nil ?_
  change AW _ _ _ _ _
  refine AW.ret ?_
  change ResA _ _ _ _ _
  refine res1 rfl (ResV.tmp rfl) rfl ?_
  rfl
theorem ptext_c (s : Bytes) (hs : s.length ≤ 549755813000) : AC Tryd.prog 43 [.sl (byA b), .sc (.int .i64 f), AS s] (fun r => r = .s (.sl (byA (b ++ textP f s)))) := by
  have ht := putN_len f s.length
  refine AC.of' 17 2 Tryd.func43 rfl ?_
  change AW _ _ _ _ [TK.mk 0 .off, TK.mk 0 .off]
  refine AW.seq ?_
  refine AW.region ?_
  refine AL.ra ?_
  refine AL.nil ?_
  change AW _ _ _ _ _
  refine AW.seq ?_
  refine AW.seq ?_
  refine AW.region ?_
  refine AL.rm ?_
  refine AL.op rfl (AOpB.op (op_call (cright_c f) rfl (by kernel_rfl) rfl (none) ?_))
  rintro r rfl
  refine AL.n ?_
  refine AL.r (rd_un rfl rfl (fun _ => rfl)) ?_
  refine AL.nil ?_
  change AW _ _ _ _ _
  refine AW.cd rfl (fun h9 => ?_) (fun h9 => ?_)
  ·skip
   refine AW.seq ?_
   refine AW.region ?_
   refine AL.rm ?_
   refine AL.op rfl (AOpB.op (op_call (join_c b [] (by omega) (by simp)) rfl (by kernel_rfl) rfl (none) ?_))
   rintro r rfl
   refine AL.n ?_
   refine AL.ra ?_
   refine AL.nil ?_
   change AW _ _ _ _ _
   refine AW.ret ?_
   change ResA _ _ _ _ _
   refine res1 rfl (ResV.tmp rfl) rfl ?_
   rw [textP, if_neg (by simp_all [okF])]
  ·skip
   refine AW.skip ?_
   change AW _ _ _ _ _
   refine AW.seq ?_
   refine AW.region ?_
   have hF : okF f = true := (by unfold okF; simpa using h9)
   have hl := byA_len (putN f s.length)
   refine AL.rm ?_
   refine AL.rm ?_
   refine AL.rm ?_
   refine AL.r (rd_len_str rfl str_9 rfl) ?_
   refine AL.op rfl (AOpB.op (op_call (cput_n f s.length hf ⟨by omega, by omega⟩ hF) rfl (by kernel_rfl) rfl (some 0) ?_))
   rintro r rfl
   refine ⟨_, rfl, ?_⟩
   refine AL.n ?_
   refine AL.rm ?_
   refine AL.op rfl (op_append_str rfl Tryd.underlying43 (by kernel_rfl) str_9 rfl rfl rfl (by simp only [byA_len]; omega) ?_)
   refine AL.n ?_
   refine AL.settle 18 rfl rfl (by first | rfl | exact cont_owM _ _ _ _) ?_
   refine AL.no ?_
   refine AL.op rfl (AOpB.op (op_call (join_c b (putN f s.length ++ s) (by omega) (by rw [List.length_append]; omega)) rfl (by kernel_rfl) rfl (none) ?_))
   rintro r rfl
   refine AL.n ?_
   refine AL.ra ?_
   refine AL.nil ?_
   change AW _ _ _ _ _
   refine AW.ret ?_
   change ResA _ _ _ _ _
   refine res1 rfl (ResV.tmp rfl) rfl ?_
   rw [textP, if_pos hF]
theorem pref_c (r : RefD) (h1 : i64R r.scope) (hg : r.group.length ≤ 1000000) (hn : r.name.length ≤ 1000000) : AC Tryd.prog 41 [.sl (byA b), .sc (.int .i64 f), r.av] (fun x => x = .s (.sl (byA (b ++ refP f r)))) := by
  have l1 := putN_len f r.scope
  have l2 := textP_len f r.group
  have l3 := textP_len f r.name
  change AC _ _ [.sl (byA b), .sc (.int .i64 f), .ag [AI r.scope, AS r.group, AS r.name]] _
  refine AC.of' 22 1 Tryd.func41 rfl ?_
  change AW _ _ _ _ [TK.mk 0 .off]
  refine AW.seq ?_
  refine AW.region ?_
  refine AL.op rfl (AOpB.op (op_box 0 rfl rfl rfl rfl rfl ?_))
  refine AL.n ?_
  refine AL.ra ?_
  refine AL.nil ?_
  change AW _ _ _ _ _
  refine AW.seq ?_
  refine AW.region ?_
  refine AL.rm ?_
  refine AL.r (rd_faddr_bx rfl fo_23_0 rfl rfl ⟨_, _, rfl⟩) ?_
  refine AL.r (rd_load_bx rfl ag_3 rfl rfl rfl) ?_
  refine AL.op rfl (AOpB.op (op_call (cput_ns f r.scope hf h1) rfl (by kernel_rfl) rfl (none) ?_))
  rintro r rfl
  refine AL.n ?_
  refine AL.ra ?_
  refine AL.nil ?_
  change AW _ _ _ _ _
  refine AW.seq ?_
  refine AW.region ?_
  refine AL.rm ?_
  refine AL.rm ?_
  refine AL.r (rd_faddr_bx rfl fo_23_1 rfl rfl ⟨_, _, rfl⟩) ?_
  refine AL.r (rd_load_bx rfl ag_9 rfl rfl rfl) ?_
  refine AL.op rfl (AOpB.op (op_call (ptext_c (putN f r.scope) f (by omega) hf r.group (by omega)) rfl (by kernel_rfl) rfl (none) ?_))
  rintro r rfl
  refine AL.n ?_
  refine AL.ra ?_
  refine AL.nil ?_
  change AW _ _ _ _ _
  refine AW.seq ?_
  refine AW.region ?_
  refine AL.rm ?_
  refine AL.rm ?_
  refine AL.r (rd_faddr_bx rfl fo_23_2 rfl rfl ⟨_, _, rfl⟩) ?_
  refine AL.r (rd_load_bx rfl ag_9 rfl rfl rfl) ?_
  refine AL.op rfl (AOpB.op (op_call (ptext_c (putN f r.scope ++ textP f r.group) f (by rw [List.length_append]; omega) hf r.name (by omega)) rfl (by kernel_rfl) rfl (none) ?_))
  rintro r rfl
  refine AL.n ?_
  refine AL.ra ?_
  refine AL.nil ?_
  change AW _ _ _ _ _
  refine AW.seq ?_
  refine AW.region ?_
  refine AL.rm ?_
  refine AL.rm ?_
  refine AL.op rfl (AOpB.op (op_call (join_c b (refP f r) (by omega) (by unfold refP; simp only [List.length_append]; omega)) rfl (by kernel_rfl) rfl (none) ?_))
  rintro r rfl
  refine AL.n ?_
  refine AL.ra ?_
  refine AL.nil ?_
  change AW _ _ _ _ _
  refine AW.ret ?_
  change ResA _ _ _ _ _
  refine res1 rfl (ResV.tmp rfl) rfl ?_
  rfl
end
end Go.Proofs.YtpkjlmaphhileaaDoor
