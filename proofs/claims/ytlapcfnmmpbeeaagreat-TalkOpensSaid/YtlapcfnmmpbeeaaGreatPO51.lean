/- A part of a proof. -/
import Derived.Test.YtlapcfnmmpbeeaaGreatPO50
set_option linter.unusedSimpArgs false
set_option linter.unusedVariables false
namespace Go.Proofs.YtlapcfnmmpbeeaaGreat
set_option maxRecDepth 100000
set_option maxRecDepth 100000
open Go.RowKit
section
variable (t : Nat → Nat) (l : List UInt8)
theorem jHp (inner : List UInt8) (e : Int) (z : Bool) (hn : ¬ (z = true ∧ e = (l.length : Int))) (hg : AC Tryz.prog 66 [.sl (byA l), .sc (.int .i64 0), .sc (tabV t)] (fun r => r = .s (.tu [.sl (byA inner), .sc (.int .i64 e), .sc (.bool z)]))) : AC Tryz.prog 16 [.sc (tabV t), .sl (byA l)] (fun r => r = .s (.tu [zN.av, AI 0, AI 8])) := by
  refine AC.of' 60 3 Tryz.func16 rfl ?_; change AW _ _ _ _ [TK.mk 0 .off, TK.mk 0 .off, TK.mk 0 .off]; refine AW.g (AL.oq (AOpB.op (jA7 0 rfl rfl rfl ?_))); refine AL.n ?_; refine AL.oq (AOpB.op (oA 1 jA2 ?_)); refine AL.n ?_; (iterate 2 refine AL.ra ?_); refine AL.nil (AW.g (AL.rm ?_)); refine AL.r (jBq rfl jCU rfl rfl) ?_; refine AL.cl (hg) ?_; refine AL.n ?_; refine AL.rm ?_; refine AL.r qe ?_; refine AL.r qe ?_; refine AL.r qe ?_; (iterate 3 refine AL.ra ?_); refine AL.nil (AW.seq (AW.g (AL.rm ?_))); refine AL.r qu ?_; refine AL.rm ?_; refine AL.fk (d := 21) rfl (fun h21 => ?_) (fun h21 => ?_)
  ·refine AL.n ?_; (iterate 4 refine AL.rf ?_); refine AL.r qt ?_; refine AL.nil (AW.cond_t rfl (AW.g (AL.r (qB jCh jA2) ?_))); refine AL.oq (oS jAR ?_); refine AL.n ?_; (iterate 2 refine AL.ra ?_); refine AL.nil (AW.ret ?_); refine r3 jAB ?_; rfl
  refine AL.n ?_; refine AL.ro (jAa rfl rfl) ?_; refine AL.ro (jAa rfl rfl) ?_; refine AL.ro (lN jAC) ?_; refine AL.ro qb ?_; refine AL.r qf ?_; refine AL.nil (AW.cd rfl (fun h26 => ?_) (fun h26 => ?_))
  ·refine AW.g (AL.r (qB jCh jA2) ?_); refine AL.oq (oS jAR ?_); refine AL.n ?_; (iterate 2 refine AL.ra ?_); refine AL.nil (AW.ret ?_); refine r3 jAB ?_; rfl
  (exfalso; clear hg; first | exact hn ⟨by assumption, by assumption⟩ | (simp_all [jAd]))
theorem jM3 (hg : AC Tryz.prog 66 [.sl (byA l), .sc (.int .i64 0), .sc (tabV t)] (fun r => r = .s (.tu [.sl (byA []), .sc (.int .i64 (l.length : Int)), .sc (.bool true)]))) : AC Tryz.prog 16 [.sc (tabV t), .sl (byA l)] (fun r => r = .s (.tu [zN.av, AI 0, AI 5])) := by
  refine AC.of' 60 3 Tryz.func16 rfl ?_; change AW _ _ _ _ [TK.mk 0 .off, TK.mk 0 .off, TK.mk 0 .off]; refine AW.g (AL.oq (AOpB.op (jA7 0 rfl rfl rfl ?_))); refine AL.n ?_; refine AL.oq (AOpB.op (oA 1 jA2 ?_)); refine AL.n ?_; (iterate 2 refine AL.ra ?_); refine AL.nil (AW.g (AL.rm ?_)); refine AL.r (jBq rfl jCU rfl rfl) ?_; refine AL.cl (hg) ?_; refine AL.n ?_; refine AL.rm ?_; refine AL.r qe ?_; refine AL.r qe ?_; refine AL.r qe ?_; (iterate 3 refine AL.ra ?_); refine AL.nil (AW.seq (AW.g (AL.rm ?_))); refine AL.r qu ?_; refine AL.rm ?_; refine AL.fk (d := 21) rfl (fun h21 => ?_) (fun h21 => ?_)
  ·(exfalso; clear hg; simp_all)
  refine AL.n ?_; refine AL.ro (jAa rfl rfl) ?_; refine AL.ro (jAa rfl rfl) ?_; refine AL.ro (lN jAC) ?_; refine AL.ro qb ?_; refine AL.r qf ?_; refine AL.nil (AW.cd rfl (fun h26 => ?_) (fun h26 => ?_))
  ·(exfalso; clear hg; simp_all [jAd])
  refine AW.skip (AW.seq (AW.g (AL.rm ?_))); refine AL.r (lN jAC) ?_; refine AL.r qb ?_; refine AL.rm ?_; refine AL.fk (d := 31) rfl (fun h31 => ?_) (fun h31 => ?_)
  ·refine AL.n ?_; (iterate 5 refine AL.rf ?_); (iterate 4 refine AL.ru ?_); refine AL.rf ?_; refine AL.r qt ?_; refine AL.nil (AW.cond_t rfl (AW.g (AL.r (qB jCh jA2) ?_))); refine AL.oq (oS jAR ?_); refine AL.n ?_; (iterate 2 refine AL.ra ?_); refine AL.nil (AW.ret ?_); refine r3 jAB ?_; rfl
  (exfalso; clear hg; simp_all [byA])
section
variable (c : UInt8) (rest : List UInt8) (hg : AC Tryz.prog 66 [.sl (byA l), .sc (.int .i64 0), .sc (tabV t)] (fun r => r = .s (.tu [.sl (byA (c :: rest)), .sc (.int .i64 (l.length : Int)), .sc (.bool true)])))
include hg
theorem jLo (hok : okF (c.toNat : Int) = false) : AC Tryz.prog 16 [.sc (tabV t), .sl (byA l)] (fun r => r = .s (.tu [zN.av, AI 0, AI 5])) := by
  have hc : c.toNat < 256 := UInt8.toNat_lt c
  have n1 : ¬ (c.toNat : Int) = 1 := fun h => by rw [h] at hok; cases hok
  have n2 : ¬ (c.toNat : Int) = 2 := fun h => by rw [h] at hok; cases hok
  refine AC.of' 60 3 Tryz.func16 rfl ?_; change AW _ _ _ _ [TK.mk 0 .off, TK.mk 0 .off, TK.mk 0 .off]; refine AW.g (AL.oq (AOpB.op (jA7 0 rfl rfl rfl ?_))); refine AL.n ?_; refine AL.oq (AOpB.op (oA 1 jA2 ?_)); refine AL.n ?_; (iterate 2 refine AL.ra ?_); refine AL.nil (AW.g (AL.rm ?_)); refine AL.r (jBq rfl jCU rfl rfl) ?_; refine AL.cl (hg) ?_; refine AL.n ?_; refine AL.rm ?_; refine AL.r qe ?_; refine AL.r qe ?_; refine AL.r qe ?_; (iterate 3 refine AL.ra ?_); refine AL.nil (AW.seq (AW.g (AL.rm ?_))); refine AL.r qu ?_; refine AL.rm ?_; refine AL.fk (d := 21) rfl (fun h21 => ?_) (fun h21 => ?_)
  ·(exfalso; clear hg; simp_all)
  refine AL.n ?_; refine AL.ro (jAa rfl rfl) ?_; refine AL.ro (jAa rfl rfl) ?_; refine AL.ro (lN jAC) ?_; refine AL.ro qb ?_; refine AL.r qf ?_; refine AL.nil (AW.cd rfl (fun h26 => ?_) (fun h26 => ?_))
  ·(exfalso; clear hg; simp_all [jAd])
  refine AW.skip (AW.seq (AW.g (AL.rm ?_))); refine AL.r (lN jAC) ?_; refine AL.r qb ?_; refine AL.rm ?_; refine AL.fk (d := 31) rfl (fun h31 => ?_) (fun h31 => ?_)
  ·(exfalso; clear hg; simp_all [byA]; (try omega))
  refine AL.n ?_; refine AL.ro (jAa rfl rfl) ?_; refine AL.ro (jAc rfl jAC rfl rfl (n := 0) rfl rfl rfl) ?_; refine AL.ro (jAl rfl ag_5 rfl rfl) ?_; refine AL.ro qb ?_; refine AL.ro (jAa rfl rfl) ?_; refine AL.fk (d := 36) rfl (fun h36 => ?_) (fun h36 => ?_)
  ·refine AL.n ?_; refine AL.ro (jAa rfl rfl) ?_; refine AL.ro (jAc rfl jAC rfl rfl (n := 0) rfl rfl rfl) ?_; refine AL.ro (jAl rfl ag_5 rfl rfl) ?_; refine AL.ro qb ?_; refine AL.ro (jAm rfl rfl rfl) ?_; refine AL.r qf ?_; refine AL.nil (AW.cd rfl (fun h42 => ?_) (fun h42 => ?_))
   ·refine AW.g (AL.r (qB jCh jA2) ?_); refine AL.oq (oS jAR ?_); refine AL.n ?_; (iterate 2 refine AL.ra ?_); refine AL.nil (AW.ret ?_); refine r3 jAB ?_; rfl
   (exfalso; clear hg; first | exact n2 (by assumption) | (simp_all; done) | omega)
  (exfalso; clear hg; first | exact n1 (by assumption) | (simp_all; done) | omega)
theorem ropen_ok (hrl : rest.length ≤ 60000) (hok : okF (c.toNat : Int) = true) (hk : okNt (newR rest (c.toNat : Int)) = true) : AC Tryz.prog 16 [.sc (tabV t), .sl (byA l)] (fun r => r = .s (.tu [(jBD (newR rest (c.toNat : Int))).av, AI (c.toNat : Int), AI 0])) := by
  have hc : c.toNat < 256 := UInt8.toNat_lt c
  have n12 : (c.toNat : Int) = 1 ∨ (c.toNat : Int) = 2 := okF_iff.1 hok
  refine AC.of' 60 3 Tryz.func16 rfl ?_; change AW _ _ _ _ [TK.mk 0 .off, TK.mk 0 .off, TK.mk 0 .off]; refine AW.g (AL.oq (AOpB.op (jA7 0 rfl rfl rfl ?_))); refine AL.n ?_; refine AL.oq (AOpB.op (oA 1 jA2 ?_)); refine AL.n ?_; (iterate 2 refine AL.ra ?_); refine AL.nil (AW.g (AL.rm ?_)); refine AL.r (jBq rfl jCU rfl rfl) ?_; refine AL.cl (hg) ?_; refine AL.n ?_; refine AL.rm ?_; refine AL.r qe ?_; refine AL.r qe ?_; refine AL.r qe ?_; (iterate 3 refine AL.ra ?_); refine AL.nil (AW.seq (AW.g (AL.rm ?_))); refine AL.r qu ?_; refine AL.rm ?_; refine AL.fk (d := 21) rfl (fun h21 => ?_) (fun h21 => ?_)
  ·(exfalso; clear hg; simp_all)
  refine AL.n ?_; refine AL.ro (jAa rfl rfl) ?_; refine AL.ro (jAa rfl rfl) ?_; refine AL.ro (lN jAC) ?_; refine AL.ro qb ?_; refine AL.r qf ?_; refine AL.nil (AW.cd rfl (fun h26 => ?_) (fun h26 => ?_))
  ·(exfalso; clear hg; simp_all [jAd])
  refine AW.skip (AW.seq (AW.g (AL.rm ?_))); refine AL.r (lN jAC) ?_; refine AL.r qb ?_; refine AL.rm ?_; refine AL.fk (d := 31) rfl (fun h31 => ?_) (fun h31 => ?_)
  ·(exfalso; clear hg; simp_all [byA]; (try omega))
  refine AL.n ?_; refine AL.ro (jAa rfl rfl) ?_; refine AL.ro (jAc rfl jAC rfl rfl (n := 0) rfl rfl rfl) ?_; refine AL.ro (jAl rfl ag_5 rfl rfl) ?_; refine AL.ro qb ?_; refine AL.ro (jAa rfl rfl) ?_; refine AL.fk (d := 36) rfl (fun h36 => ?_) (fun h36 => ?_)
  ·refine AL.n ?_; refine AL.ro (jAa rfl rfl) ?_; refine AL.ro (jAc rfl jAC rfl rfl (n := 0) rfl rfl rfl) ?_; refine AL.ro (jAl rfl ag_5 rfl rfl) ?_; refine AL.ro qb ?_; refine AL.ro (jAm rfl rfl rfl) ?_; refine AL.r qf ?_; refine AL.nil (AW.cd rfl (fun h42 => ?_) (fun h42 => ?_))
   ·(exfalso; clear hg; first | omega | (simp_all; done))
   refine AW.skip (AW.seq (AW.drawA (by kernel_rfl) ?_)); refine ADA.r 0 rfl (ARdP.a (jAr rfl rfl)) rfl ?_; refine ADA.r 2 rfl (ARdP.a (jAr rfl rfl)) rfl ?_; refine ADA.r 3 rfl (ARdP.a (jAK rfl jAC rfl rfl (n := 0) rfl rfl rfl)) rfl ?_; refine ADA.r 4 rfl (jBb rfl ag_5 rfl rfl) rfl ?_; refine ADA.r 5 rfl (ARdP.a (jBL rfl jCN ik_3 rfl (IntWalk.i64_in _ (by omega)))) rfl ?_; refine ADA.b ?_; refine ADB.all (is := [1, 10]) (by kernel_rfl) (by simp) ?_; intro i hi; simp only [List.mem_cons, List.not_mem_nil, or_false] at hi
   rcases hi with rfl | rfl
   ·refine ⟨_, rfl, rfl, AOpB.op (ARd.opB (jBl rfl jAC rfl rfl (m := 1) rfl (by simp)) ?_)⟩; refine ADB.n ?_; refine ADB.all (is := [6, 10]) (by kernel_rfl) (by simp) ?_; intro i hi; simp only [List.mem_cons, List.not_mem_nil, or_false] at hi
    rcases hi with rfl | rfl
    ·refine ⟨_, rfl, rfl, AOpB.op (jAb (jF9 hok hrl hk) rfl (by kernel_rfl) rfl (none) ?_)⟩; rintro r rfl; refine ADB.n ?_; refine ADB.r 7 rfl (jAr rfl rfl) rfl ?_; refine ADB.r 8 rfl (jAM rfl rfl rfl) rfl ?_; refine ADB.r 9 rfl (jAM rfl rfl rfl) rfl ?_; refine ADB.mv 10 rfl (AOpB.op (oA 2 jA2 ?_)); refine ADB.n ?_; refine ADB.mv 11 rfl (oS jAR ?_); refine ADB.n ?_; refine ADB.r 12 rfl (jAk rfl rfl) rfl ?_; refine ADB.done (by kernel_rfl) ?_; change AW _ _ _ _ _; refine AW.seq (AW.g (AL.rm ?_)); refine AL.r qu ?_; refine AL.nil (AW.cd rfl (fun h55 => ?_) (fun h55 => ?_))
     ·(exfalso; first | exact h55 rfl | (simp at h55))
     refine AW.skip (AW.seq ?_); apply AW.drawS (by kernel_rfl)
     ·refine ADA.r 1 rfl (ARdP.a (jAr rfl rfl)) rfl ?_; refine ADA.r 2 rfl (ARdP.a (jAK rfl jAC rfl rfl (n := 0) rfl rfl rfl)) rfl ?_; refine ADA.r 3 rfl (jBb rfl ag_5 rfl rfl) rfl ?_; refine ADA.r 4 rfl (ARdP.a (jBL rfl jCN ik_3 rfl (IntWalk.i64_in _ (by omega)))) rfl ?_; refine ADA.b ?_; refine ADB.mv 0 rfl (AOpB.op (ARd.opB (qN jAB) ?_)); refine ADB.n ?_; refine ADB.mv 5 rfl (oS jAR ?_); refine ADB.n ?_; refine ADB.r 6 rfl (jAk rfl rfl) rfl ?_; refine ADB.r 7 rfl (jAk rfl rfl) rfl ?_; refine ADB.done (by kernel_rfl) ?_; exact ⟨rfl, rfl⟩
     skip
     change AW _ _ _ _ _; refine AW.ret ?_; refine r3 jAB ?_; rfl
    refine ⟨_, rfl, rfl, AOpB.op (oA 2 jA2 ?_)⟩; refine ADB.n ?_; refine ADB.mv 6 rfl (AOpB.op (jAb (jF9 hok hrl hk) rfl (by kernel_rfl) rfl (none) ?_)); rintro r rfl; refine ADB.n ?_; refine ADB.r 7 rfl (jAr rfl rfl) rfl ?_; refine ADB.r 8 rfl (jAM rfl rfl rfl) rfl ?_; refine ADB.r 9 rfl (jAM rfl rfl rfl) rfl ?_; refine ADB.mv 11 rfl (oS jAR ?_); refine ADB.n ?_; refine ADB.r 12 rfl (jAk rfl rfl) rfl ?_; refine ADB.done (by kernel_rfl) ?_; change AW _ _ _ _ _; refine AW.seq (AW.g (AL.rm ?_)); refine AL.r qu ?_; refine AL.nil (AW.cd rfl (fun h55 => ?_) (fun h55 => ?_))
    ·(exfalso; first | exact h55 rfl | (simp at h55))
    refine AW.skip (AW.seq ?_); apply AW.drawS (by kernel_rfl)
    ·refine ADA.r 1 rfl (ARdP.a (jAr rfl rfl)) rfl ?_; refine ADA.r 2 rfl (ARdP.a (jAK rfl jAC rfl rfl (n := 0) rfl rfl rfl)) rfl ?_; refine ADA.r 3 rfl (jBb rfl ag_5 rfl rfl) rfl ?_; refine ADA.r 4 rfl (ARdP.a (jBL rfl jCN ik_3 rfl (IntWalk.i64_in _ (by omega)))) rfl ?_; refine ADA.b ?_; refine ADB.mv 0 rfl (AOpB.op (ARd.opB (qN jAB) ?_)); refine ADB.n ?_; refine ADB.mv 5 rfl (oS jAR ?_); refine ADB.n ?_; refine ADB.r 6 rfl (jAk rfl rfl) rfl ?_; refine ADB.r 7 rfl (jAk rfl rfl) rfl ?_; refine ADB.done (by kernel_rfl) ?_; exact ⟨rfl, rfl⟩
    skip
    change AW _ _ _ _ _; refine AW.ret ?_; refine r3 jAB ?_; rfl
   refine ⟨_, rfl, rfl, AOpB.op (oA 2 jA2 ?_)⟩; refine ADB.n ?_; refine ADB.mv 1 rfl (AOpB.op (ARd.opB (jBl rfl jAC rfl rfl (m := 1) rfl (by simp)) ?_)); refine ADB.n ?_; refine ADB.mv 6 rfl (AOpB.op (jAb (jF9 hok hrl hk) rfl (by kernel_rfl) rfl (none) ?_)); rintro r rfl; refine ADB.n ?_; refine ADB.r 7 rfl (jAr rfl rfl) rfl ?_; refine ADB.r 8 rfl (jAM rfl rfl rfl) rfl ?_; refine ADB.r 9 rfl (jAM rfl rfl rfl) rfl ?_; refine ADB.mv 11 rfl (oS jAR ?_); refine ADB.n ?_; refine ADB.r 12 rfl (jAk rfl rfl) rfl ?_; refine ADB.done (by kernel_rfl) ?_; change AW _ _ _ _ _; refine AW.seq (AW.g (AL.rm ?_)); refine AL.r qu ?_; refine AL.nil (AW.cd rfl (fun h55 => ?_) (fun h55 => ?_))
   ·(exfalso; first | exact h55 rfl | (simp at h55))
   refine AW.skip (AW.seq ?_); apply AW.drawS (by kernel_rfl)
   ·refine ADA.r 1 rfl (ARdP.a (jAr rfl rfl)) rfl ?_; refine ADA.r 2 rfl (ARdP.a (jAK rfl jAC rfl rfl (n := 0) rfl rfl rfl)) rfl ?_; refine ADA.r 3 rfl (jBb rfl ag_5 rfl rfl) rfl ?_; refine ADA.r 4 rfl (ARdP.a (jBL rfl jCN ik_3 rfl (IntWalk.i64_in _ (by omega)))) rfl ?_; refine ADA.b ?_; refine ADB.mv 0 rfl (AOpB.op (ARd.opB (qN jAB) ?_)); refine ADB.n ?_; refine ADB.mv 5 rfl (oS jAR ?_); refine ADB.n ?_; refine ADB.r 6 rfl (jAk rfl rfl) rfl ?_; refine ADB.r 7 rfl (jAk rfl rfl) rfl ?_; refine ADB.done (by kernel_rfl) ?_; exact ⟨rfl, rfl⟩
   skip
   change AW _ _ _ _ _; refine AW.ret ?_; refine r3 jAB ?_; rfl
  refine AL.n ?_; (iterate 4 refine AL.rf ?_); refine AL.ro (jAs rfl rfl rfl) ?_; refine AL.r qf ?_; refine AL.nil (AW.cond_f rfl (AW.skip (AW.seq (AW.drawA (by kernel_rfl) ?_)))); refine ADA.r 0 rfl (ARdP.a (jAr rfl rfl)) rfl ?_; refine ADA.r 2 rfl (ARdP.a (jAr rfl rfl)) rfl ?_; refine ADA.r 3 rfl (ARdP.a (jAK rfl jAC rfl rfl (n := 0) rfl rfl rfl)) rfl ?_; refine ADA.r 4 rfl (jBb rfl ag_5 rfl rfl) rfl ?_; refine ADA.r 5 rfl (ARdP.a (jBL rfl jCN ik_3 rfl (IntWalk.i64_in _ (by omega)))) rfl ?_; refine ADA.b ?_; refine ADB.all (is := [1, 10]) (by kernel_rfl) (by simp) ?_; intro i hi; simp only [List.mem_cons, List.not_mem_nil, or_false] at hi
  rcases hi with rfl | rfl
  ·refine ⟨_, rfl, rfl, AOpB.op (ARd.opB (jBl rfl jAC rfl rfl (m := 1) rfl (by simp)) ?_)⟩; refine ADB.n ?_; refine ADB.all (is := [6, 10]) (by kernel_rfl) (by simp) ?_; intro i hi; simp only [List.mem_cons, List.not_mem_nil, or_false] at hi
   rcases hi with rfl | rfl
   ·refine ⟨_, rfl, rfl, AOpB.op (jAb (jF9 hok hrl hk) rfl (by kernel_rfl) rfl (none) ?_)⟩; rintro r rfl; refine ADB.n ?_; refine ADB.r 7 rfl (jAr rfl rfl) rfl ?_; refine ADB.r 8 rfl (jAM rfl rfl rfl) rfl ?_; refine ADB.r 9 rfl (jAM rfl rfl rfl) rfl ?_; refine ADB.mv 10 rfl (AOpB.op (oA 2 jA2 ?_)); refine ADB.n ?_; refine ADB.mv 11 rfl (oS jAR ?_); refine ADB.n ?_; refine ADB.r 12 rfl (jAk rfl rfl) rfl ?_; refine ADB.done (by kernel_rfl) ?_; change AW _ _ _ _ _; refine AW.seq (AW.g (AL.rm ?_)); refine AL.r qu ?_; refine AL.nil (AW.cd rfl (fun h55 => ?_) (fun h55 => ?_))
    ·(exfalso; first | exact h55 rfl | (simp at h55))
    refine AW.skip (AW.seq ?_); apply AW.drawS (by kernel_rfl)
    ·refine ADA.r 1 rfl (ARdP.a (jAr rfl rfl)) rfl ?_; refine ADA.r 2 rfl (ARdP.a (jAK rfl jAC rfl rfl (n := 0) rfl rfl rfl)) rfl ?_; refine ADA.r 3 rfl (jBb rfl ag_5 rfl rfl) rfl ?_; refine ADA.r 4 rfl (ARdP.a (jBL rfl jCN ik_3 rfl (IntWalk.i64_in _ (by omega)))) rfl ?_; refine ADA.b ?_; refine ADB.mv 0 rfl (AOpB.op (ARd.opB (qN jAB) ?_)); refine ADB.n ?_; refine ADB.mv 5 rfl (oS jAR ?_); refine ADB.n ?_; refine ADB.r 6 rfl (jAk rfl rfl) rfl ?_; refine ADB.r 7 rfl (jAk rfl rfl) rfl ?_; refine ADB.done (by kernel_rfl) ?_; exact ⟨rfl, rfl⟩
    skip
    change AW _ _ _ _ _; refine AW.ret ?_; refine r3 jAB ?_; rfl
   refine ⟨_, rfl, rfl, AOpB.op (oA 2 jA2 ?_)⟩; refine ADB.n ?_; refine ADB.mv 6 rfl (AOpB.op (jAb (jF9 hok hrl hk) rfl (by kernel_rfl) rfl (none) ?_)); rintro r rfl; refine ADB.n ?_; refine ADB.r 7 rfl (jAr rfl rfl) rfl ?_; refine ADB.r 8 rfl (jAM rfl rfl rfl) rfl ?_; refine ADB.r 9 rfl (jAM rfl rfl rfl) rfl ?_; refine ADB.mv 11 rfl (oS jAR ?_); refine ADB.n ?_; refine ADB.r 12 rfl (jAk rfl rfl) rfl ?_; refine ADB.done (by kernel_rfl) ?_; change AW _ _ _ _ _; refine AW.seq (AW.g (AL.rm ?_)); refine AL.r qu ?_; refine AL.nil (AW.cd rfl (fun h55 => ?_) (fun h55 => ?_))
   ·(exfalso; first | exact h55 rfl | (simp at h55))
   refine AW.skip (AW.seq ?_); apply AW.drawS (by kernel_rfl)
   ·refine ADA.r 1 rfl (ARdP.a (jAr rfl rfl)) rfl ?_; refine ADA.r 2 rfl (ARdP.a (jAK rfl jAC rfl rfl (n := 0) rfl rfl rfl)) rfl ?_; refine ADA.r 3 rfl (jBb rfl ag_5 rfl rfl) rfl ?_; refine ADA.r 4 rfl (ARdP.a (jBL rfl jCN ik_3 rfl (IntWalk.i64_in _ (by omega)))) rfl ?_; refine ADA.b ?_; refine ADB.mv 0 rfl (AOpB.op (ARd.opB (qN jAB) ?_)); refine ADB.n ?_; refine ADB.mv 5 rfl (oS jAR ?_); refine ADB.n ?_; refine ADB.r 6 rfl (jAk rfl rfl) rfl ?_; refine ADB.r 7 rfl (jAk rfl rfl) rfl ?_; refine ADB.done (by kernel_rfl) ?_; exact ⟨rfl, rfl⟩
   skip
   change AW _ _ _ _ _; refine AW.ret ?_; refine r3 jAB ?_; rfl
  refine ⟨_, rfl, rfl, AOpB.op (oA 2 jA2 ?_)⟩; refine ADB.n ?_; refine ADB.mv 1 rfl (AOpB.op (ARd.opB (jBl rfl jAC rfl rfl (m := 1) rfl (by simp)) ?_)); refine ADB.n ?_; refine ADB.mv 6 rfl (AOpB.op (jAb (jF9 hok hrl hk) rfl (by kernel_rfl) rfl (none) ?_)); rintro r rfl; refine ADB.n ?_; refine ADB.r 7 rfl (jAr rfl rfl) rfl ?_; refine ADB.r 8 rfl (jAM rfl rfl rfl) rfl ?_; refine ADB.r 9 rfl (jAM rfl rfl rfl) rfl ?_; refine ADB.mv 11 rfl (oS jAR ?_); refine ADB.n ?_; refine ADB.r 12 rfl (jAk rfl rfl) rfl ?_; refine ADB.done (by kernel_rfl) ?_; change AW _ _ _ _ _; refine AW.seq (AW.g (AL.rm ?_)); refine AL.r qu ?_; refine AL.nil (AW.cd rfl (fun h55 => ?_) (fun h55 => ?_))
  ·(exfalso; first | exact h55 rfl | (simp at h55))
  refine AW.skip (AW.seq ?_); apply AW.drawS (by kernel_rfl)
  ·refine ADA.r 1 rfl (ARdP.a (jAr rfl rfl)) rfl ?_; refine ADA.r 2 rfl (ARdP.a (jAK rfl jAC rfl rfl (n := 0) rfl rfl rfl)) rfl ?_; refine ADA.r 3 rfl (jBb rfl ag_5 rfl rfl) rfl ?_; refine ADA.r 4 rfl (ARdP.a (jBL rfl jCN ik_3 rfl (IntWalk.i64_in _ (by omega)))) rfl ?_; refine ADA.b ?_; refine ADB.mv 0 rfl (AOpB.op (ARd.opB (qN jAB) ?_)); refine ADB.n ?_; refine ADB.mv 5 rfl (oS jAR ?_); refine ADB.n ?_; refine ADB.r 6 rfl (jAk rfl rfl) rfl ?_; refine ADB.r 7 rfl (jAk rfl rfl) rfl ?_; refine ADB.done (by kernel_rfl) ?_; exact ⟨rfl, rfl⟩
  skip
  change AW _ _ _ _ _; refine AW.ret ?_; refine r3 jAB ?_; rfl
theorem ropen_no (hrl : rest.length ≤ 60000) (hok : okF (c.toNat : Int) = true) (hk : okNt (newR rest (c.toNat : Int)) = false) : AC Tryz.prog 16 [.sc (tabV t), .sl (byA l)] (fun r => r = .s (.tu [zN.av, AI 0, AI 5])) := by
  have hc : c.toNat < 256 := UInt8.toNat_lt c
  have n12 : (c.toNat : Int) = 1 ∨ (c.toNat : Int) = 2 := okF_iff.1 hok
  refine AC.of' 60 3 Tryz.func16 rfl ?_; change AW _ _ _ _ [TK.mk 0 .off, TK.mk 0 .off, TK.mk 0 .off]; refine AW.g (AL.oq (AOpB.op (jA7 0 rfl rfl rfl ?_))); refine AL.n ?_; refine AL.oq (AOpB.op (oA 1 jA2 ?_)); refine AL.n ?_; (iterate 2 refine AL.ra ?_); refine AL.nil (AW.g (AL.rm ?_)); refine AL.r (jBq rfl jCU rfl rfl) ?_; refine AL.cl (hg) ?_; refine AL.n ?_; refine AL.rm ?_; refine AL.r qe ?_; refine AL.r qe ?_; refine AL.r qe ?_; (iterate 3 refine AL.ra ?_); refine AL.nil (AW.seq (AW.g (AL.rm ?_))); refine AL.r qu ?_; refine AL.rm ?_; refine AL.fk (d := 21) rfl (fun h21 => ?_) (fun h21 => ?_)
  ·(exfalso; clear hg; simp_all)
  refine AL.n ?_; refine AL.ro (jAa rfl rfl) ?_; refine AL.ro (jAa rfl rfl) ?_; refine AL.ro (lN jAC) ?_; refine AL.ro qb ?_; refine AL.r qf ?_; refine AL.nil (AW.cd rfl (fun h26 => ?_) (fun h26 => ?_))
  ·(exfalso; clear hg; simp_all [jAd])
  refine AW.skip (AW.seq (AW.g (AL.rm ?_))); refine AL.r (lN jAC) ?_; refine AL.r qb ?_; refine AL.rm ?_; refine AL.fk (d := 31) rfl (fun h31 => ?_) (fun h31 => ?_)
  ·(exfalso; clear hg; simp_all [byA]; (try omega))
  refine AL.n ?_; refine AL.ro (jAa rfl rfl) ?_; refine AL.ro (jAc rfl jAC rfl rfl (n := 0) rfl rfl rfl) ?_; refine AL.ro (jAl rfl ag_5 rfl rfl) ?_; refine AL.ro qb ?_; refine AL.ro (jAa rfl rfl) ?_; refine AL.fk (d := 36) rfl (fun h36 => ?_) (fun h36 => ?_)
  ·refine AL.n ?_; refine AL.ro (jAa rfl rfl) ?_; refine AL.ro (jAc rfl jAC rfl rfl (n := 0) rfl rfl rfl) ?_; refine AL.ro (jAl rfl ag_5 rfl rfl) ?_; refine AL.ro qb ?_; refine AL.ro (jAm rfl rfl rfl) ?_; refine AL.r qf ?_; refine AL.nil (AW.cd rfl (fun h42 => ?_) (fun h42 => ?_))
   ·(exfalso; clear hg; first | omega | (simp_all; done))
   refine AW.skip (AW.seq (AW.drawA (by kernel_rfl) ?_)); refine ADA.r 0 rfl (ARdP.a (jAr rfl rfl)) rfl ?_; refine ADA.r 2 rfl (ARdP.a (jAr rfl rfl)) rfl ?_; refine ADA.r 3 rfl (ARdP.a (jAK rfl jAC rfl rfl (n := 0) rfl rfl rfl)) rfl ?_; refine ADA.r 4 rfl (jBb rfl ag_5 rfl rfl) rfl ?_; refine ADA.r 5 rfl (ARdP.a (jBL rfl jCN ik_3 rfl (IntWalk.i64_in _ (by omega)))) rfl ?_; refine ADA.b ?_; refine ADB.all (is := [1, 10]) (by kernel_rfl) (by simp) ?_; intro i hi; simp only [List.mem_cons, List.not_mem_nil, or_false] at hi
   rcases hi with rfl | rfl
   ·refine ⟨_, rfl, rfl, AOpB.op (ARd.opB (jBl rfl jAC rfl rfl (m := 1) rfl (by simp)) ?_)⟩; refine ADB.n ?_; refine ADB.all (is := [6, 10]) (by kernel_rfl) (by simp) ?_; intro i hi; simp only [List.mem_cons, List.not_mem_nil, or_false] at hi
    rcases hi with rfl | rfl
    ·refine ⟨_, rfl, rfl, AOpB.op (jAb (jGf hok hrl hk) rfl (by kernel_rfl) rfl (none) ?_)⟩; rintro r ⟨c0, c1, c2, c3, c4, c5, c6, c7, c8, c9, c10, c11, rfl⟩; refine ADB.n ?_; refine ADB.r 7 rfl (jAr rfl rfl) rfl ?_; refine ADB.r 8 rfl (jAM rfl rfl rfl) rfl ?_; refine ADB.r 9 rfl (jAM rfl rfl rfl) rfl ?_; refine ADB.mv 10 rfl (AOpB.op (oA 2 jA2 ?_)); refine ADB.n ?_; refine ADB.mv 11 rfl (oS jAR ?_); refine ADB.n ?_; refine ADB.r 12 rfl (jAk rfl rfl) rfl ?_; refine ADB.done (by kernel_rfl) ?_; change AW _ _ _ _ _; refine AW.seq (AW.g (AL.rm ?_)); refine AL.r qu ?_; refine AL.nil (AW.cd rfl (fun h55 => ?_) (fun h55 => ?_))
     ·refine AW.g (AL.r (qB jCh jA2) ?_); refine AL.oq (oS jAR ?_); refine AL.n ?_; (iterate 2 refine AL.ra ?_); refine AL.nil (AW.ret ?_); refine r3 jAB ?_; rfl
     (exfalso; first | exact h55 rfl | (simp at h55))
    refine ⟨_, rfl, rfl, AOpB.op (oA 2 jA2 ?_)⟩; refine ADB.n ?_; refine ADB.mv 6 rfl (AOpB.op (jAb (jGf hok hrl hk) rfl (by kernel_rfl) rfl (none) ?_)); rintro r ⟨c0, c1, c2, c3, c4, c5, c6, c7, c8, c9, c10, c11, rfl⟩; refine ADB.n ?_; refine ADB.r 7 rfl (jAr rfl rfl) rfl ?_; refine ADB.r 8 rfl (jAM rfl rfl rfl) rfl ?_; refine ADB.r 9 rfl (jAM rfl rfl rfl) rfl ?_; refine ADB.mv 11 rfl (oS jAR ?_); refine ADB.n ?_; refine ADB.r 12 rfl (jAk rfl rfl) rfl ?_; refine ADB.done (by kernel_rfl) ?_; change AW _ _ _ _ _; refine AW.seq (AW.g (AL.rm ?_)); refine AL.r qu ?_; refine AL.nil (AW.cd rfl (fun h55 => ?_) (fun h55 => ?_))
    ·refine AW.g (AL.r (qB jCh jA2) ?_); refine AL.oq (oS jAR ?_); refine AL.n ?_; (iterate 2 refine AL.ra ?_); refine AL.nil (AW.ret ?_); refine r3 jAB ?_; rfl
    (exfalso; first | exact h55 rfl | (simp at h55))
   refine ⟨_, rfl, rfl, AOpB.op (oA 2 jA2 ?_)⟩; refine ADB.n ?_; refine ADB.mv 1 rfl (AOpB.op (ARd.opB (jBl rfl jAC rfl rfl (m := 1) rfl (by simp)) ?_)); refine ADB.n ?_; refine ADB.mv 6 rfl (AOpB.op (jAb (jGf hok hrl hk) rfl (by kernel_rfl) rfl (none) ?_)); rintro r ⟨c0, c1, c2, c3, c4, c5, c6, c7, c8, c9, c10, c11, rfl⟩; refine ADB.n ?_; refine ADB.r 7 rfl (jAr rfl rfl) rfl ?_; refine ADB.r 8 rfl (jAM rfl rfl rfl) rfl ?_; refine ADB.r 9 rfl (jAM rfl rfl rfl) rfl ?_; refine ADB.mv 11 rfl (oS jAR ?_); refine ADB.n ?_; refine ADB.r 12 rfl (jAk rfl rfl) rfl ?_; refine ADB.done (by kernel_rfl) ?_; change AW _ _ _ _ _; refine AW.seq (AW.g (AL.rm ?_)); refine AL.r qu ?_; refine AL.nil (AW.cd rfl (fun h55 => ?_) (fun h55 => ?_))
   ·refine AW.g (AL.r (qB jCh jA2) ?_); refine AL.oq (oS jAR ?_); refine AL.n ?_; (iterate 2 refine AL.ra ?_); refine AL.nil (AW.ret ?_); refine r3 jAB ?_; rfl
   (exfalso; first | exact h55 rfl | (simp at h55))
  refine AL.n ?_; (iterate 4 refine AL.rf ?_); refine AL.ro (jAs rfl rfl rfl) ?_; refine AL.r qf ?_; refine AL.nil (AW.cond_f rfl (AW.skip (AW.seq (AW.drawA (by kernel_rfl) ?_)))); refine ADA.r 0 rfl (ARdP.a (jAr rfl rfl)) rfl ?_; refine ADA.r 2 rfl (ARdP.a (jAr rfl rfl)) rfl ?_; refine ADA.r 3 rfl (ARdP.a (jAK rfl jAC rfl rfl (n := 0) rfl rfl rfl)) rfl ?_; refine ADA.r 4 rfl (jBb rfl ag_5 rfl rfl) rfl ?_; refine ADA.r 5 rfl (ARdP.a (jBL rfl jCN ik_3 rfl (IntWalk.i64_in _ (by omega)))) rfl ?_; refine ADA.b ?_; refine ADB.all (is := [1, 10]) (by kernel_rfl) (by simp) ?_; intro i hi; simp only [List.mem_cons, List.not_mem_nil, or_false] at hi
  rcases hi with rfl | rfl
  ·refine ⟨_, rfl, rfl, AOpB.op (ARd.opB (jBl rfl jAC rfl rfl (m := 1) rfl (by simp)) ?_)⟩; refine ADB.n ?_; refine ADB.all (is := [6, 10]) (by kernel_rfl) (by simp) ?_; intro i hi; simp only [List.mem_cons, List.not_mem_nil, or_false] at hi
   rcases hi with rfl | rfl
   ·refine ⟨_, rfl, rfl, AOpB.op (jAb (jGf hok hrl hk) rfl (by kernel_rfl) rfl (none) ?_)⟩; rintro r ⟨c0, c1, c2, c3, c4, c5, c6, c7, c8, c9, c10, c11, rfl⟩; refine ADB.n ?_; refine ADB.r 7 rfl (jAr rfl rfl) rfl ?_; refine ADB.r 8 rfl (jAM rfl rfl rfl) rfl ?_; refine ADB.r 9 rfl (jAM rfl rfl rfl) rfl ?_; refine ADB.mv 10 rfl (AOpB.op (oA 2 jA2 ?_)); refine ADB.n ?_; refine ADB.mv 11 rfl (oS jAR ?_); refine ADB.n ?_; refine ADB.r 12 rfl (jAk rfl rfl) rfl ?_; refine ADB.done (by kernel_rfl) ?_; change AW _ _ _ _ _; refine AW.seq (AW.g (AL.rm ?_)); refine AL.r qu ?_; refine AL.nil (AW.cd rfl (fun h55 => ?_) (fun h55 => ?_))
    ·refine AW.g (AL.r (qB jCh jA2) ?_); refine AL.oq (oS jAR ?_); refine AL.n ?_; (iterate 2 refine AL.ra ?_); refine AL.nil (AW.ret ?_); refine r3 jAB ?_; rfl
    (exfalso; first | exact h55 rfl | (simp at h55))
   refine ⟨_, rfl, rfl, AOpB.op (oA 2 jA2 ?_)⟩; refine ADB.n ?_; refine ADB.mv 6 rfl (AOpB.op (jAb (jGf hok hrl hk) rfl (by kernel_rfl) rfl (none) ?_)); rintro r ⟨c0, c1, c2, c3, c4, c5, c6, c7, c8, c9, c10, c11, rfl⟩; refine ADB.n ?_; refine ADB.r 7 rfl (jAr rfl rfl) rfl ?_; refine ADB.r 8 rfl (jAM rfl rfl rfl) rfl ?_; refine ADB.r 9 rfl (jAM rfl rfl rfl) rfl ?_; refine ADB.mv 11 rfl (oS jAR ?_); refine ADB.n ?_; refine ADB.r 12 rfl (jAk rfl rfl) rfl ?_; refine ADB.done (by kernel_rfl) ?_; change AW _ _ _ _ _; refine AW.seq (AW.g (AL.rm ?_)); refine AL.r qu ?_; refine AL.nil (AW.cd rfl (fun h55 => ?_) (fun h55 => ?_))
   ·refine AW.g (AL.r (qB jCh jA2) ?_); refine AL.oq (oS jAR ?_); refine AL.n ?_; (iterate 2 refine AL.ra ?_); refine AL.nil (AW.ret ?_); refine r3 jAB ?_; rfl
   (exfalso; first | exact h55 rfl | (simp at h55))
  refine ⟨_, rfl, rfl, AOpB.op (oA 2 jA2 ?_)⟩; refine ADB.n ?_; refine ADB.mv 1 rfl (AOpB.op (ARd.opB (jBl rfl jAC rfl rfl (m := 1) rfl (by simp)) ?_)); refine ADB.n ?_; refine ADB.mv 6 rfl (AOpB.op (jAb (jGf hok hrl hk) rfl (by kernel_rfl) rfl (none) ?_)); rintro r ⟨c0, c1, c2, c3, c4, c5, c6, c7, c8, c9, c10, c11, rfl⟩; refine ADB.n ?_; refine ADB.r 7 rfl (jAr rfl rfl) rfl ?_; refine ADB.r 8 rfl (jAM rfl rfl rfl) rfl ?_; refine ADB.r 9 rfl (jAM rfl rfl rfl) rfl ?_; refine ADB.mv 11 rfl (oS jAR ?_); refine ADB.n ?_; refine ADB.r 12 rfl (jAk rfl rfl) rfl ?_; refine ADB.done (by kernel_rfl) ?_; change AW _ _ _ _ _; refine AW.seq (AW.g (AL.rm ?_)); refine AL.r qu ?_; refine AL.nil (AW.cd rfl (fun h55 => ?_) (fun h55 => ?_))
  ·refine AW.g (AL.r (qB jCh jA2) ?_); refine AL.oq (oS jAR ?_); refine AL.n ?_; (iterate 2 refine AL.ra ?_); refine AL.nil (AW.ret ?_); refine r3 jAB ?_; rfl
  (exfalso; first | exact h55 rfl | (simp at h55))
end
end
section
variable (t : Nat → Nat) (ht : ∀ i, i < 256 → t i < 4294967296) (l : List UInt8) (hl : l.length ≤ 60000)
include ht hl
theorem ropens_c : AC Tryz.prog 16 [.sc (tabV t), .sl (byA l)] (fun r => r = .s (openV (jED t l))) := by
  have hg := rget_c t ht l 0 (Nat.zero_le _) (by omega)
  cases e : fget t l with
  | none =>
    rw [show jED t l = (zN, 0, 8) by unfold jED; rw [e]]
    exact jHp t l [] 0 false (by simp) (hg.mono fun r hr => by rw [hr]; unfold gB gE; rw [List.drop_zero, e] <;> rfl)
  | some inner =>
    have hE : gE t l 0 = ((8 + inner.length : Nat) : Int) := by unfold gE; rw [List.drop_zero, e] <;> simp
    by_cases h8 : 8 + inner.length = l.length
    · rw [show jED t l = jHm inner by unfold jED; rw [e]; exact if_pos h8]
      have hg' : AC Tryz.prog 66 [.sl (byA l), .sc (.int .i64 0), .sc (tabV t)] (fun r => r = .s (.tu [.sl (byA inner), .sc (.int .i64 (l.length : Int)), .sc (.bool true)])) := hg.mono fun r hr => by rw [hr, hE, h8]; unfold gB; rw [List.drop_zero, e] <;> rfl
      cases inner with
      | nil => exact jM3 t l hg'
      | cons c rest =>
        have hr : rest.length ≤ 60000 := by simp at h8; omega
        cases hok : okF (c.toNat : Int) with
        | true =>
          rw [jKX hok]
          cases hk : okNt (newR rest (c.toNat : Int)) with
          | true => rw [jF3 hk rfl]; exact ropen_ok t l c rest hg' hr hok hk
          | false => rw [jDT hk]; exact ropen_no t l c rest hg' hr hok hk
        | false => rw [jKJ hok]; exact jLo t l c rest hg' hok
    rw [show jED t l = (zN, 0, 8) by unfold jED; rw [e]; exact if_neg h8]
    exact jHp t l inner ((8 + inner.length : Nat) : Int) true (by omega) (hg.mono fun r hr => by rw [hr, hE]; unfold gB; rw [List.drop_zero, e] <;> rfl)
omit ht in
theorem jJZ : ∀ e ∈ (jED t l).1.edges, e.lens.Small := by
  have z : ∀ e ∈ zN.edges, e.lens.Small := fun e he => by simp [zN] at he
  unfold jED
  split
  · exact z
  rename_i inner _
  split
  · rename_i h8
    unfold jHm
    split
    · exact z
    rename_i c rest _
    have hr : rest.length ≤ 60000 := by simp at h8; omega
    split
    · rename_i hok
      unfold jA1
      split
      · rename_i hk
        exact nt_small hok hr hk
      exact z
    exact z
  exact z
end
end Go.Proofs.YtlapcfnmmpbeeaaGreat
