/- The reference's pen, walked over abstract states: what is put. Conditions: a format that is one, int64 numbers, short texts; no vectors. -/
import Derived.Test.YtpkjlmaphhileaaDoorThA
namespace Go.Proofs.YtpkjlmaphhileaaDoor
set_option linter.unusedSimpArgs false
set_option linter.unusedVariables false
set_option maxRecDepth 100000
set_option maxRecDepth 100000
open Go.RowKit

def putH (f : Int) (x : ThingD) : List UInt8 := if x.kind = 0 ∨ x.kind = 6 then putN f x.n else if x.kind = 1 then textP f x.s else if x.kind = 2 then flagB x.f else if x.kind = 3 then tagP f x.t else refP f x.r
section
variable (f : Int) (hf : i64R f) (h : okF f = true)
include hf h
theorem crput_n (z : Int) (hz : i64R z) : AC Tryd.prog 52 [.sc (.int .i64 f), .sc (.int .i64 z)] (fun r => r = .o 5 1 (byA (putN f z))) := crput_o f z hf hz (putN_ne (okF_iff.1 h))
theorem rtext8_c (s : Bytes) (hs : s.length ≤ 1000000) : AC Tryd.prog 60 [.sc (.int .i64 f), AS s] (fun r => r = .o 5 1 (byA (textP f s))) := by
  have l1 := putN_len f s.length
  refine AC.of' 10 3 Tryd.func60 rfl ?_
  change AW _ _ _ _ [TK.mk 0 .off, TK.mk 0 .off, TK.mk 0 .off]
  refine AW.seq ?_
  refine AW.region ?_
  refine AL.ra ?_
  refine AL.nil ?_
  change AW _ _ _ _ _
  refine AW.seq ?_
  refine AW.region ?_
  refine AL.rm ?_
  refine AL.rm ?_
  refine AL.r (rd_len_str rfl str_9 rfl) ?_
  refine AL.op rfl (AOpB.op (op_call (crput_n f hf h s.length ⟨by omega, by omega⟩) rfl (by kernel_rfl) rfl (some 0) ?_))
  rintro r rfl
  refine ⟨_, rfl, ?_⟩
  refine AL.n ?_
  refine AL.rm ?_
  refine AL.op rfl (AOpB.op (op_s2b rfl str_9 Tryd.underlying43 Tryd.underlying5 rfl (by unfold maxLen; omega) ?_))
  refine AL.n ?_
  refine AL.op rfl (op_append rfl ap_43 rfl rfl (src_s rfl) (by simp only [byA_len]; omega) (by simp only [byA_len]; omega) ?_)
  refine AL.n ?_
  refine AL.ra ?_
  refine AL.nil ?_
  change AW _ _ _ _ _
  refine AW.ret ?_
  change ResA _ _ _ _ _
  refine res1o rfl (ResV.tmp rfl) rfl ?_
  rw [textP, if_pos h]
theorem rput8_c (x : ThingD) (hk : x.kind = 0 ∨ x.kind = 1 ∨ x.kind = 2 ∨ x.kind = 3 ∨ x.kind = 5 ∨ x.kind = 6) (hn : i64R x.n) (hs : x.s.length ≤ 1000000) (ht1 : i64R x.t.rep) (ht2 : i64R x.t.n) (hr : i64R x.r.scope) (hr1 : x.r.group.length ≤ 1000000) (hr2 : x.r.name.length ≤ 1000000) : AC Tryd.prog 51 [.sc (.int .i64 f), x.av] (fun r => r = .o 5 1 (byA (putH f x))) := by
  have l1 := putN_len f x.t.rep; have l2 := putN_len f x.t.n; have l3 := putN_len f x.r.scope
  have l4 := textP_len f x.r.group; have l5 := textP_len f x.r.name
  change AC _ _ [.sc (.int .i64 f), .ag [AI x.kind, AI x.n, AS x.s, AB x.f, AI x.t.rep, AI x.t.n, AI x.v.a, AI x.v.b, AI x.v.c, AI x.v.d, AI x.v.e, AI x.v.f, AI x.r.scope, AS x.r.group, AS x.r.name, AI x.most]] _
  refine AC.of' 77 16 Tryd.func51 rfl ?_
  change AW _ _ _ _ [TK.mk 0 .off, TK.mk 0 .off, TK.mk 0 .off, TK.mk 0 .off, TK.mk 0 .off, TK.mk 0 .off, TK.mk 0 .off, TK.mk 0 .off, TK.mk 0 .off, TK.mk 0 .off, TK.mk 0 .off, TK.mk 0 .off, TK.mk 0 .off, TK.mk 0 .off, TK.mk 0 .off, TK.mk 0 .off]
  refine AW.seq ?_
  refine AW.region ?_
  refine AL.op rfl (AOpB.op (op_box 0 rfl rfl rfl rfl rfl ?_))
  refine AL.n ?_
  refine AL.ra ?_
  refine AL.nil ?_
  change AW _ _ _ _ _
  refine AW.seq ?_
  refine AW.seq ?_
  refine AW.region ?_
  refine AL.r (rd_faddr_bx rfl fo_76_0 rfl rfl ⟨_, _, rfl⟩) ?_
  refine AL.r (rd_load_bx rfl ag_3 rfl rfl rfl) ?_
  refine AL.nil ?_
  change AW _ _ _ _ _
  refine AW.block ?_
  refine AW.seq ?_
  refine AW.seq ?_
  refine AW.region ?_
  refine AL.r (rd_bin rfl rfl rfl (fun _ => rfl)) ?_
  refine AL.ra ?_
  refine AL.nil ?_
  change AW _ _ _ _ _
  refine AW.cd rfl (fun h10 => ?_) (fun h10 => ?_)
  ·skip
   refine AW.skip ?_
   change AW _ _ _ _ _
   refine AW.cd rfl (fun h10 => ?_) (fun h10 => ?_)
   ·skip
    refine AW.seq ?_
    refine AW.region ?_
    refine AL.rm ?_
    refine AL.r (rd_faddr_bx rfl fo_76_1 rfl rfl ⟨_, _, rfl⟩) ?_
    refine AL.r (rd_load_bx rfl ag_2 rfl rfl rfl) ?_
    refine AL.op rfl (AOpB.op (op_call (crput_n f hf h x.n hn) rfl (by kernel_rfl) rfl (some 1) ?_))
    rintro r rfl
    refine ⟨_, rfl, ?_⟩
    refine AL.n ?_
    refine AL.ra ?_
    refine AL.nil ?_
    change AW _ _ _ _ _
    refine AW.ret ?_
    change ResA _ _ _ _ _
    refine res1o rfl (ResV.tmp rfl) rfl ?_
    rw [show putH f x = putN f x.n by unfold putH; grind]
   ·skip
    refine AW.seq ?_
    refine AW.region ?_
    refine AL.r (rd_bin rfl rfl rfl (fun _ => rfl)) ?_
    refine AL.ra ?_
    refine AL.nil ?_
    change AW _ _ _ _ _
    refine AW.cd rfl (fun h17 => ?_) (fun h17 => ?_)
    ·skip
     refine AW.seq ?_
     refine AW.region ?_
     refine AL.rm ?_
     refine AL.r (rd_faddr_bx rfl fo_76_2 rfl rfl ⟨_, _, rfl⟩) ?_
     refine AL.r (rd_load_bx rfl ag_9 rfl rfl rfl) ?_
     refine AL.op rfl (AOpB.op (op_call (rtext8_c f hf h x.s hs) rfl (by kernel_rfl) rfl (some 2) ?_))
     rintro r rfl
     refine ⟨_, rfl, ?_⟩
     refine AL.n ?_
     refine AL.ra ?_
     refine AL.nil ?_
     change AW _ _ _ _ _
     refine AW.ret ?_
     change ResA _ _ _ _ _
     refine res1o rfl (ResV.tmp rfl) rfl ?_
     rw [show putH f x = textP f x.s by unfold putH; grind]
    ·skip
     refine AW.seq ?_
     refine AW.region ?_
     refine AL.r (rd_bin rfl rfl rfl (fun _ => rfl)) ?_
     refine AL.ra ?_
     refine AL.nil ?_
     change AW _ _ _ _ _
     refine AW.cd rfl (fun h23 => ?_) (fun h23 => ?_)
     ·skip
      refine AW.seq ?_
      refine AW.seq ?_
      refine AW.region ?_
      refine AL.r (rd_faddr_bx rfl fo_76_3 rfl rfl ⟨_, _, rfl⟩) ?_
      refine AL.r (rd_load_bx rfl ag_4 rfl rfl rfl) ?_
      refine AL.nil ?_
      change AW _ _ _ _ _
      refine AW.cd rfl (fun h26 => ?_) (fun h26 => ?_)
      ·skip
       refine AW.seq ?_
       refine AW.region ?_
       refine AL.op rfl (AOpB.op (bs_own 3 rfl ap_43 ze_5 rfl rfl rfl ?_))
       refine AL.n ?_
       refine AL.ra ?_
       refine AL.nil ?_
       change AW _ _ _ _ _
       refine AW.ret ?_
       change ResA _ _ _ _ _
       refine res1o rfl (ResV.tmp rfl) rfl ?_
       rw [show putH f x = flagB x.f by unfold putH; grind, flagB, if_pos (by assumption)]; rfl
      ·skip
       refine AW.skip ?_
       change AW _ _ _ _ _
       refine AW.seq ?_
       refine AW.region ?_
       refine AL.op rfl (AOpB.op (bs_own 4 rfl ap_43 ze_5 rfl rfl rfl ?_))
       refine AL.n ?_
       refine AL.ra ?_
       refine AL.nil ?_
       change AW _ _ _ _ _
       refine AW.ret ?_
       change ResA _ _ _ _ _
       refine res1o rfl (ResV.tmp rfl) rfl ?_
       rw [show putH f x = flagB x.f by unfold putH; grind, flagB, if_neg (by grind)]; rfl
     ·skip
      refine AW.seq ?_
      refine AW.region ?_
      refine AL.r (rd_bin rfl rfl rfl (fun _ => rfl)) ?_
      refine AL.ra ?_
      refine AL.nil ?_
      change AW _ _ _ _ _
      refine AW.cd rfl (fun h29 => ?_) (fun h29 => ?_)
      ·skip
       refine AW.seq ?_
       refine AW.drawA (by kernel_rfl) ?_
       refine ADA.r 0 rfl (ARdP.a (rdP_move rfl rfl)) rfl ?_
       refine ADA.r 1 rfl (ARdP.a (rdP_faddr_bx rfl fo_76_4 rfl rfl ⟨_, _, rfl⟩)) rfl ?_
       refine ADA.r 2 rfl (ARdP.a (rdP_faddr_bx rfl fo_72_0 rfl rfl ⟨_, _, rfl⟩)) rfl ?_
       refine ADA.r 5 rfl (ARdP.a (rdP_move rfl rfl)) rfl ?_
       refine ADA.r 6 rfl (ARdP.a (rdP_faddr_bx rfl fo_76_4 rfl rfl ⟨_, _, rfl⟩)) rfl ?_
       refine ADA.r 7 rfl (ARdP.a (rdP_faddr_bx rfl fo_72_1 rfl rfl ⟨_, _, rfl⟩)) rfl ?_
       refine ADA.b ?_
       refine ADB.all (is := [3, 8]) (by kernel_rfl) (by simp) ?_
       intro i hi
       simp only [List.mem_cons, List.not_mem_nil, or_false] at hi
       rcases hi with rfl | rfl
       ·skip
        refine ⟨_, rfl, rfl, AOpB.op (ARd.opB (rd_load_bx rfl ag_3 rfl rfl rfl) ?_)⟩
        refine ADB.n ?_
        refine ADB.all (is := [4, 8]) (by kernel_rfl) (by simp) ?_
        intro i hi
        simp only [List.mem_cons, List.not_mem_nil, or_false] at hi
        rcases hi with rfl | rfl
        ·skip
         refine ⟨_, rfl, rfl, AOpB.op (op_call (crput_n f hf h x.t.rep ht1) rfl (by kernel_rfl) rfl (some 5) ?_)⟩
         rintro r rfl
         refine ⟨_, rfl, ?_⟩
         refine ADB.n ?_
         refine ADB.mv 8 rfl (AOpB.op (ARd.opB (rd_load_bx rfl ag_3 rfl rfl rfl) ?_))
         refine ADB.n ?_
         refine ADB.mv 9 rfl (AOpB.op (op_call (crput_n f hf h x.t.n ht2) rfl (by kernel_rfl) rfl (some 6) ?_))
         rintro r rfl
         refine ⟨_, rfl, ?_⟩
         refine ADB.n ?_
         refine ADB.mv 10 rfl (op_append rfl ap_43 rfl rfl (src_ow rfl rfl) (by simp only [byA_len]; omega) (by simp only [byA_len]; omega) ?_)
         refine ADB.n ?_
         refine ADB.r 11 rfl (rdP_assign rfl rfl) rfl ?_
         refine ADB.done (by kernel_rfl) ?_
         change AW _ _ _ _ _
         refine AW.ret ?_
         change ResA _ _ _ _ _
         refine res1o rfl (ResV.tmp rfl) rfl ?_
         rw [show putH f x = tagP f x.t by unfold putH; grind]; rfl
        ·skip
         refine ⟨_, rfl, rfl, AOpB.op (ARd.opB (rd_load_bx rfl ag_3 rfl rfl rfl) ?_)⟩
         refine ADB.n ?_
         refine ADB.mv 4 rfl (AOpB.op (op_call (crput_n f hf h x.t.rep ht1) rfl (by kernel_rfl) rfl (some 5) ?_))
         rintro r rfl
         refine ⟨_, rfl, ?_⟩
         refine ADB.n ?_
         refine ADB.mv 9 rfl (AOpB.op (op_call (crput_n f hf h x.t.n ht2) rfl (by kernel_rfl) rfl (some 6) ?_))
         rintro r rfl
         refine ⟨_, rfl, ?_⟩
         refine ADB.n ?_
         refine ADB.mv 10 rfl (op_append rfl ap_43 rfl rfl (src_ow rfl rfl) (by simp only [byA_len]; omega) (by simp only [byA_len]; omega) ?_)
         refine ADB.n ?_
         refine ADB.r 11 rfl (rdP_assign rfl rfl) rfl ?_
         refine ADB.done (by kernel_rfl) ?_
         change AW _ _ _ _ _
         refine AW.ret ?_
         change ResA _ _ _ _ _
         refine res1o rfl (ResV.tmp rfl) rfl ?_
         rw [show putH f x = tagP f x.t by unfold putH; grind]; rfl
       ·skip
        refine ⟨_, rfl, rfl, AOpB.op (ARd.opB (rd_load_bx rfl ag_3 rfl rfl rfl) ?_)⟩
        refine ADB.n ?_
        refine ADB.mv 3 rfl (AOpB.op (ARd.opB (rd_load_bx rfl ag_3 rfl rfl rfl) ?_))
        refine ADB.n ?_
        refine ADB.mv 4 rfl (AOpB.op (op_call (crput_n f hf h x.t.rep ht1) rfl (by kernel_rfl) rfl (some 5) ?_))
        rintro r rfl
        refine ⟨_, rfl, ?_⟩
        refine ADB.n ?_
        refine ADB.mv 9 rfl (AOpB.op (op_call (crput_n f hf h x.t.n ht2) rfl (by kernel_rfl) rfl (some 6) ?_))
        rintro r rfl
        refine ⟨_, rfl, ?_⟩
        refine ADB.n ?_
        refine ADB.mv 10 rfl (op_append rfl ap_43 rfl rfl (src_ow rfl rfl) (by simp only [byA_len]; omega) (by simp only [byA_len]; omega) ?_)
        refine ADB.n ?_
        refine ADB.r 11 rfl (rdP_assign rfl rfl) rfl ?_
        refine ADB.done (by kernel_rfl) ?_
        change AW _ _ _ _ _
        refine AW.ret ?_
        change ResA _ _ _ _ _
        refine res1o rfl (ResV.tmp rfl) rfl ?_
        rw [show putH f x = tagP f x.t by unfold putH; grind]; rfl
      ·skip
       refine AW.seq ?_
       refine AW.region ?_
       refine AL.r (rd_bin rfl rfl rfl (fun _ => rfl)) ?_
       refine AL.ra ?_
       refine AL.nil ?_
       change AW _ _ _ _ _
       refine AW.cd rfl (fun h42 => ?_) (fun h42 => ?_)
       ·skip
        refine AW.seq ?_
        omega
       ·skip
        refine AW.seq ?_
        refine AW.region ?_
        refine AL.r (rd_bin rfl rfl rfl (fun _ => rfl)) ?_
        refine AL.ra ?_
        refine AL.nil ?_
        change AW _ _ _ _ _
        refine AW.cd rfl (fun h58 => ?_) (fun h58 => ?_)
        ·skip
         refine AW.seq ?_
         refine AW.region ?_
         refine AL.rm ?_
         refine AL.r (rd_faddr_bx rfl fo_76_6 rfl rfl ⟨_, _, rfl⟩) ?_
         refine AL.r (rd_faddr_bx rfl fo_23_0 rfl rfl ⟨_, _, rfl⟩) ?_
         refine AL.r (rd_load_bx rfl ag_3 rfl rfl rfl) ?_
         refine AL.op rfl (AOpB.op (op_call (crput_n f hf h x.r.scope hr) rfl (by kernel_rfl) rfl (some 11) ?_))
         rintro r rfl
         refine ⟨_, rfl, ?_⟩
         refine AL.n ?_
         refine AL.ra ?_
         refine AL.nil ?_
         change AW _ _ _ _ _
         refine AW.seq ?_
         refine AW.region ?_
         refine AL.rm ?_
         refine AL.rm ?_
         refine AL.r (rd_faddr_bx rfl fo_76_6 rfl rfl ⟨_, _, rfl⟩) ?_
         refine AL.r (rd_faddr_bx rfl fo_23_1 rfl rfl ⟨_, _, rfl⟩) ?_
         refine AL.r (rd_load_bx rfl ag_9 rfl rfl rfl) ?_
         refine AL.op rfl (AOpB.op (op_call (rtext8_c f hf h x.r.group hr1) rfl (by kernel_rfl) rfl (some 12) ?_))
         rintro r rfl
         refine ⟨_, rfl, ?_⟩
         refine AL.n ?_
         refine AL.op rfl (op_append rfl ap_43 rfl rfl (src_ow rfl rfl) (by simp only [byA_len]; omega) (by simp only [byA_len]; omega) ?_)
         refine AL.n ?_
         refine AL.ra ?_
         refine AL.nil ?_
         change AW _ _ _ _ _
         refine AW.seq ?_
         refine AW.region ?_
         refine AL.rm ?_
         refine AL.rm ?_
         refine AL.r (rd_faddr_bx rfl fo_76_6 rfl rfl ⟨_, _, rfl⟩) ?_
         refine AL.r (rd_faddr_bx rfl fo_23_2 rfl rfl ⟨_, _, rfl⟩) ?_
         refine AL.r (rd_load_bx rfl ag_9 rfl rfl rfl) ?_
         refine AL.op rfl (AOpB.op (op_call (rtext8_c f hf h x.r.name hr2) rfl (by kernel_rfl) rfl (some 14) ?_))
         rintro r rfl
         refine ⟨_, rfl, ?_⟩
         refine AL.n ?_
         refine AL.op rfl (op_append rfl ap_43 rfl rfl (src_ow rfl rfl) (by simp only [byA_len, List.length_append]; omega) (by simp only [byA_len, List.length_append]; omega) ?_)
         refine AL.n ?_
         refine AL.ra ?_
         refine AL.nil ?_
         change AW _ _ _ _ _
         refine AW.ret ?_
         change ResA _ _ _ _ _
         refine res1o rfl (ResV.tmp rfl) rfl ?_
         rw [show putH f x = refP f x.r by unfold putH; grind]; rfl
        ·skip
         refine AW.skip ?_
         change AW _ _ _ _ _
         refine AW.seq ?_
         omega
  ·skip
   refine AW.region ?_
   refine AL.r (rd_bin rfl rfl rfl (fun _ => rfl)) ?_
   refine AL.ra ?_
   refine AL.nil ?_
   change AW _ _ _ _ _
   refine AW.cd rfl (fun h10 => ?_) (fun h10 => ?_)
   ·skip
    refine AW.seq ?_
    refine AW.region ?_
    refine AL.rm ?_
    refine AL.r (rd_faddr_bx rfl fo_76_1 rfl rfl ⟨_, _, rfl⟩) ?_
    refine AL.r (rd_load_bx rfl ag_2 rfl rfl rfl) ?_
    refine AL.op rfl (AOpB.op (op_call (crput_n f hf h x.n hn) rfl (by kernel_rfl) rfl (some 1) ?_))
    rintro r rfl
    refine ⟨_, rfl, ?_⟩
    refine AL.n ?_
    refine AL.ra ?_
    refine AL.nil ?_
    change AW _ _ _ _ _
    refine AW.ret ?_
    change ResA _ _ _ _ _
    refine res1o rfl (ResV.tmp rfl) rfl ?_
    rw [show putH f x = putN f x.n by unfold putH; grind]
   ·skip
    refine AW.seq ?_
    refine AW.region ?_
    refine AL.r (rd_bin rfl rfl rfl (fun _ => rfl)) ?_
    refine AL.ra ?_
    refine AL.nil ?_
    change AW _ _ _ _ _
    refine AW.cd rfl (fun h17 => ?_) (fun h17 => ?_)
    ·skip
     refine AW.seq ?_
     refine AW.region ?_
     refine AL.rm ?_
     refine AL.r (rd_faddr_bx rfl fo_76_2 rfl rfl ⟨_, _, rfl⟩) ?_
     refine AL.r (rd_load_bx rfl ag_9 rfl rfl rfl) ?_
     refine AL.op rfl (AOpB.op (op_call (rtext8_c f hf h x.s hs) rfl (by kernel_rfl) rfl (some 2) ?_))
     rintro r rfl
     refine ⟨_, rfl, ?_⟩
     refine AL.n ?_
     refine AL.ra ?_
     refine AL.nil ?_
     change AW _ _ _ _ _
     refine AW.ret ?_
     change ResA _ _ _ _ _
     refine res1o rfl (ResV.tmp rfl) rfl ?_
     rw [show putH f x = textP f x.s by unfold putH; grind]
    ·skip
     refine AW.seq ?_
     refine AW.region ?_
     refine AL.r (rd_bin rfl rfl rfl (fun _ => rfl)) ?_
     refine AL.ra ?_
     refine AL.nil ?_
     change AW _ _ _ _ _
     refine AW.cd rfl (fun h23 => ?_) (fun h23 => ?_)
     ·skip
      refine AW.seq ?_
      refine AW.seq ?_
      refine AW.region ?_
      refine AL.r (rd_faddr_bx rfl fo_76_3 rfl rfl ⟨_, _, rfl⟩) ?_
      refine AL.r (rd_load_bx rfl ag_4 rfl rfl rfl) ?_
      refine AL.nil ?_
      change AW _ _ _ _ _
      refine AW.cd rfl (fun h26 => ?_) (fun h26 => ?_)
      ·skip
       refine AW.seq ?_
       refine AW.region ?_
       refine AL.op rfl (AOpB.op (bs_own 3 rfl ap_43 ze_5 rfl rfl rfl ?_))
       refine AL.n ?_
       refine AL.ra ?_
       refine AL.nil ?_
       change AW _ _ _ _ _
       refine AW.ret ?_
       change ResA _ _ _ _ _
       refine res1o rfl (ResV.tmp rfl) rfl ?_
       rw [show putH f x = flagB x.f by unfold putH; grind, flagB, if_pos (by assumption)]; rfl
      ·skip
       refine AW.skip ?_
       change AW _ _ _ _ _
       refine AW.seq ?_
       refine AW.region ?_
       refine AL.op rfl (AOpB.op (bs_own 4 rfl ap_43 ze_5 rfl rfl rfl ?_))
       refine AL.n ?_
       refine AL.ra ?_
       refine AL.nil ?_
       change AW _ _ _ _ _
       refine AW.ret ?_
       change ResA _ _ _ _ _
       refine res1o rfl (ResV.tmp rfl) rfl ?_
       rw [show putH f x = flagB x.f by unfold putH; grind, flagB, if_neg (by grind)]; rfl
     ·skip
      refine AW.seq ?_
      refine AW.region ?_
      refine AL.r (rd_bin rfl rfl rfl (fun _ => rfl)) ?_
      refine AL.ra ?_
      refine AL.nil ?_
      change AW _ _ _ _ _
      refine AW.cd rfl (fun h29 => ?_) (fun h29 => ?_)
      ·skip
       refine AW.seq ?_
       refine AW.drawA (by kernel_rfl) ?_
       refine ADA.r 0 rfl (ARdP.a (rdP_move rfl rfl)) rfl ?_
       refine ADA.r 1 rfl (ARdP.a (rdP_faddr_bx rfl fo_76_4 rfl rfl ⟨_, _, rfl⟩)) rfl ?_
       refine ADA.r 2 rfl (ARdP.a (rdP_faddr_bx rfl fo_72_0 rfl rfl ⟨_, _, rfl⟩)) rfl ?_
       refine ADA.r 5 rfl (ARdP.a (rdP_move rfl rfl)) rfl ?_
       refine ADA.r 6 rfl (ARdP.a (rdP_faddr_bx rfl fo_76_4 rfl rfl ⟨_, _, rfl⟩)) rfl ?_
       refine ADA.r 7 rfl (ARdP.a (rdP_faddr_bx rfl fo_72_1 rfl rfl ⟨_, _, rfl⟩)) rfl ?_
       refine ADA.b ?_
       refine ADB.all (is := [3, 8]) (by kernel_rfl) (by simp) ?_
       intro i hi
       simp only [List.mem_cons, List.not_mem_nil, or_false] at hi
       rcases hi with rfl | rfl
       ·skip
        refine ⟨_, rfl, rfl, AOpB.op (ARd.opB (rd_load_bx rfl ag_3 rfl rfl rfl) ?_)⟩
        refine ADB.n ?_
        refine ADB.all (is := [4, 8]) (by kernel_rfl) (by simp) ?_
        intro i hi
        simp only [List.mem_cons, List.not_mem_nil, or_false] at hi
        rcases hi with rfl | rfl
        ·skip
         refine ⟨_, rfl, rfl, AOpB.op (op_call (crput_n f hf h x.t.rep ht1) rfl (by kernel_rfl) rfl (some 5) ?_)⟩
         rintro r rfl
         refine ⟨_, rfl, ?_⟩
         refine ADB.n ?_
         refine ADB.mv 8 rfl (AOpB.op (ARd.opB (rd_load_bx rfl ag_3 rfl rfl rfl) ?_))
         refine ADB.n ?_
         refine ADB.mv 9 rfl (AOpB.op (op_call (crput_n f hf h x.t.n ht2) rfl (by kernel_rfl) rfl (some 6) ?_))
         rintro r rfl
         refine ⟨_, rfl, ?_⟩
         refine ADB.n ?_
         refine ADB.mv 10 rfl (op_append rfl ap_43 rfl rfl (src_ow rfl rfl) (by simp only [byA_len]; omega) (by simp only [byA_len]; omega) ?_)
         refine ADB.n ?_
         refine ADB.r 11 rfl (rdP_assign rfl rfl) rfl ?_
         refine ADB.done (by kernel_rfl) ?_
         change AW _ _ _ _ _
         refine AW.ret ?_
         change ResA _ _ _ _ _
         refine res1o rfl (ResV.tmp rfl) rfl ?_
         rw [show putH f x = tagP f x.t by unfold putH; grind]; rfl
        ·skip
         refine ⟨_, rfl, rfl, AOpB.op (ARd.opB (rd_load_bx rfl ag_3 rfl rfl rfl) ?_)⟩
         refine ADB.n ?_
         refine ADB.mv 4 rfl (AOpB.op (op_call (crput_n f hf h x.t.rep ht1) rfl (by kernel_rfl) rfl (some 5) ?_))
         rintro r rfl
         refine ⟨_, rfl, ?_⟩
         refine ADB.n ?_
         refine ADB.mv 9 rfl (AOpB.op (op_call (crput_n f hf h x.t.n ht2) rfl (by kernel_rfl) rfl (some 6) ?_))
         rintro r rfl
         refine ⟨_, rfl, ?_⟩
         refine ADB.n ?_
         refine ADB.mv 10 rfl (op_append rfl ap_43 rfl rfl (src_ow rfl rfl) (by simp only [byA_len]; omega) (by simp only [byA_len]; omega) ?_)
         refine ADB.n ?_
         refine ADB.r 11 rfl (rdP_assign rfl rfl) rfl ?_
         refine ADB.done (by kernel_rfl) ?_
         change AW _ _ _ _ _
         refine AW.ret ?_
         change ResA _ _ _ _ _
         refine res1o rfl (ResV.tmp rfl) rfl ?_
         rw [show putH f x = tagP f x.t by unfold putH; grind]; rfl
       ·skip
        refine ⟨_, rfl, rfl, AOpB.op (ARd.opB (rd_load_bx rfl ag_3 rfl rfl rfl) ?_)⟩
        refine ADB.n ?_
        refine ADB.mv 3 rfl (AOpB.op (ARd.opB (rd_load_bx rfl ag_3 rfl rfl rfl) ?_))
        refine ADB.n ?_
        refine ADB.mv 4 rfl (AOpB.op (op_call (crput_n f hf h x.t.rep ht1) rfl (by kernel_rfl) rfl (some 5) ?_))
        rintro r rfl
        refine ⟨_, rfl, ?_⟩
        refine ADB.n ?_
        refine ADB.mv 9 rfl (AOpB.op (op_call (crput_n f hf h x.t.n ht2) rfl (by kernel_rfl) rfl (some 6) ?_))
        rintro r rfl
        refine ⟨_, rfl, ?_⟩
        refine ADB.n ?_
        refine ADB.mv 10 rfl (op_append rfl ap_43 rfl rfl (src_ow rfl rfl) (by simp only [byA_len]; omega) (by simp only [byA_len]; omega) ?_)
        refine ADB.n ?_
        refine ADB.r 11 rfl (rdP_assign rfl rfl) rfl ?_
        refine ADB.done (by kernel_rfl) ?_
        change AW _ _ _ _ _
        refine AW.ret ?_
        change ResA _ _ _ _ _
        refine res1o rfl (ResV.tmp rfl) rfl ?_
        rw [show putH f x = tagP f x.t by unfold putH; grind]; rfl
      ·skip
       refine AW.seq ?_
       refine AW.region ?_
       refine AL.r (rd_bin rfl rfl rfl (fun _ => rfl)) ?_
       refine AL.ra ?_
       refine AL.nil ?_
       change AW _ _ _ _ _
       refine AW.cd rfl (fun h42 => ?_) (fun h42 => ?_)
       ·skip
        refine AW.seq ?_
        omega
       ·skip
        refine AW.seq ?_
        refine AW.region ?_
        refine AL.r (rd_bin rfl rfl rfl (fun _ => rfl)) ?_
        refine AL.ra ?_
        refine AL.nil ?_
        change AW _ _ _ _ _
        refine AW.cd rfl (fun h58 => ?_) (fun h58 => ?_)
        ·skip
         refine AW.seq ?_
         refine AW.region ?_
         refine AL.rm ?_
         refine AL.r (rd_faddr_bx rfl fo_76_6 rfl rfl ⟨_, _, rfl⟩) ?_
         refine AL.r (rd_faddr_bx rfl fo_23_0 rfl rfl ⟨_, _, rfl⟩) ?_
         refine AL.r (rd_load_bx rfl ag_3 rfl rfl rfl) ?_
         refine AL.op rfl (AOpB.op (op_call (crput_n f hf h x.r.scope hr) rfl (by kernel_rfl) rfl (some 11) ?_))
         rintro r rfl
         refine ⟨_, rfl, ?_⟩
         refine AL.n ?_
         refine AL.ra ?_
         refine AL.nil ?_
         change AW _ _ _ _ _
         refine AW.seq ?_
         refine AW.region ?_
         refine AL.rm ?_
         refine AL.rm ?_
         refine AL.r (rd_faddr_bx rfl fo_76_6 rfl rfl ⟨_, _, rfl⟩) ?_
         refine AL.r (rd_faddr_bx rfl fo_23_1 rfl rfl ⟨_, _, rfl⟩) ?_
         refine AL.r (rd_load_bx rfl ag_9 rfl rfl rfl) ?_
         refine AL.op rfl (AOpB.op (op_call (rtext8_c f hf h x.r.group hr1) rfl (by kernel_rfl) rfl (some 12) ?_))
         rintro r rfl
         refine ⟨_, rfl, ?_⟩
         refine AL.n ?_
         refine AL.op rfl (op_append rfl ap_43 rfl rfl (src_ow rfl rfl) (by simp only [byA_len]; omega) (by simp only [byA_len]; omega) ?_)
         refine AL.n ?_
         refine AL.ra ?_
         refine AL.nil ?_
         change AW _ _ _ _ _
         refine AW.seq ?_
         refine AW.region ?_
         refine AL.rm ?_
         refine AL.rm ?_
         refine AL.r (rd_faddr_bx rfl fo_76_6 rfl rfl ⟨_, _, rfl⟩) ?_
         refine AL.r (rd_faddr_bx rfl fo_23_2 rfl rfl ⟨_, _, rfl⟩) ?_
         refine AL.r (rd_load_bx rfl ag_9 rfl rfl rfl) ?_
         refine AL.op rfl (AOpB.op (op_call (rtext8_c f hf h x.r.name hr2) rfl (by kernel_rfl) rfl (some 14) ?_))
         rintro r rfl
         refine ⟨_, rfl, ?_⟩
         refine AL.n ?_
         refine AL.op rfl (op_append rfl ap_43 rfl rfl (src_ow rfl rfl) (by simp only [byA_len, List.length_append]; omega) (by simp only [byA_len, List.length_append]; omega) ?_)
         refine AL.n ?_
         refine AL.ra ?_
         refine AL.nil ?_
         change AW _ _ _ _ _
         refine AW.ret ?_
         change ResA _ _ _ _ _
         refine res1o rfl (ResV.tmp rfl) rfl ?_
         rw [show putH f x = refP f x.r by unfold putH; grind]; rfl
        ·skip
         refine AW.skip ?_
         change AW _ _ _ _ _
         refine AW.seq ?_
         omega
end
def tagT (t : TagD) : ThingD := ⟨3, 0, [], false, t, vec0, ⟨0, [], []⟩, 0⟩
def textT (s : Bytes) : ThingD := ⟨1, 0, s, false, ⟨0, 0⟩, vec0, ⟨0, [], []⟩, 0⟩
def flagT (x : Bool) : ThingD := ⟨2, 0, [], x, ⟨0, 0⟩, vec0, ⟨0, [], []⟩, 0⟩
def refT (r : RefD) : ThingD := ⟨5, 0, [], false, ⟨0, 0⟩, vec0, r, 0⟩
theorem i64R0 : i64R 0 := by unfold i64R; omega
section
variable (f : Int) (hf : i64R f) (h : okF f = true)
include hf h
theorem r8tag_c (t : TagD) (h1 : i64R t.rep) (h2 : i64R t.n) : AC Tryd.prog 51 [.sc (.int .i64 f), (tagT t).av] (fun r => r = .o 5 1 (byA (tagP f t))) :=
  rput8_c f hf h (tagT t) (by simp [tagT]) i64R0 (by simp [tagT]) h1 h2 i64R0 (by simp [tagT]) (by simp [tagT])
theorem r8ref_c (x : RefD) (h1 : i64R x.scope) (h2 : x.group.length ≤ 1000000) (h3 : x.name.length ≤ 1000000) : AC Tryd.prog 51 [.sc (.int .i64 f), (refT x).av] (fun r => r = .o 5 1 (byA (refP f x))) :=
  rput8_c f hf h (refT x) (by simp [refT]) i64R0 (by simp [refT]) i64R0 i64R0 h1 h2 h3
theorem r8flag_c (x : Bool) : AC Tryd.prog 51 [.sc (.int .i64 f), (flagT x).av] (fun r => r = .o 5 1 (byA (flagB x))) :=
  rput8_c f hf h (flagT x) (by simp [flagT]) i64R0 (by simp [flagT]) i64R0 i64R0 i64R0 (by simp [flagT]) (by simp [flagT])
theorem r8text_c (s : Bytes) (hs : s.length ≤ 1000000) : AC Tryd.prog 51 [.sc (.int .i64 f), (textT s).av] (fun r => r = .o 5 1 (byA (textP f s))) :=
  rput8_c f hf h (textT s) (by simp [textT]) i64R0 hs i64R0 i64R0 i64R0 (by simp [textT]) (by simp [textT])
end
end Go.Proofs.YtpkjlmaphhileaaDoor
