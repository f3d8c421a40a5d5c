/- The law SlotsAgain, walked over abstract states. -/
import Derived.Test.YtgjpeldgjpgbcaaSltE
namespace Go.Proofs.Ytgjpeldgjpgbcaa
set_option linter.unusedSimpArgs false
set_option linter.unusedVariables false
set_option maxRecDepth 100000
open Go.RowKit

structure SJ (l : List (List UInt8)) (k E c : Nat) (h : List UInt8) (F : Files) (d : DiskD) : Prop where
  le : k ≤ l.length
  e : E ≤ k
  rest : Rest 100000 (10 * k) F d
  fused : d.fused = false
  si : SI byteN F 0 c E h
  sz : (F 0).length ≤ 316 ∧ (F 1).length ≤ 316 ∧ (F 2).length = 0 ∧ (F 3).length = 0
  hl : h.length ≤ 300
def sS (c E : Nat) (h : List UInt8) : SltD := ⟨0, c, E, h, false⟩
section
variable {l : List (List UInt8)} {k E c : Nat} {h : List UInt8} {F : Files} {d : DiskD}
theorem SJ.tot (j : SJ l k E c h F d) : Go.Proofs.Ytgjpeldgjpgbcaa.tot F ≤ 632 := by have := j.sz; unfold Go.Proofs.Ytgjpeldgjpgbcaa.tot; omega
/-- d1: with a fuse or without. -/
theorem SJ.sw (j : SJ l k E c h F d) {d1 : DiskD} (h1 : Rest 100000 (10 * k) F d1) (hl : l.length ≤ 12) : Sw byteN 0 100000 (10 * k) F (sS c E h) d1 c E h := ⟨h1, ⟨rfl, rfl, rfl, by omega, j.si.c2, by have := j.e; have := j.le; omega⟩, rfl, rfl, j.si⟩
theorem sj_new (l : List (List UInt8)) : SJ l 0 0 1 [] (fun _ => []) (newD 100000) := ⟨Nat.zero_le _, Nat.le_refl _, rest_new (by omega), rfl, si_new byteN 0 rfl rfl, by simp, by simp⟩
theorem SJ.opens (j : SJ l k E c h F d) : openS byteN d 0 = sS c E h := SI.opened (by rw [j.rest.n]; exact j.si)
/-- Behind the put and the crash: as before, or the next epoch. -/
theorem SJ.next (j : SJ l k E c h F d) {d1 : DiskD} (h1 : Rest 100000 (10 * k) F d1) (hl : l.length ≤ 12) (hk : k < l.length) {x : List UInt8} (hx : x.length ≤ 300) (keep : Int) :
    (sputD byteN (sS c E h) d1 0 c E x).Ok (10 * k + 2) ∧ ∃ F', ((SJ l (k + 1) E c h F' (crashD (sputD byteN (sS c E h) d1 0 c E x) keep) ∧ ¬ sputR byteN (sS c E h) d1 0 c E x = 0) ∨ SJ l (k + 1) (E + 1) (1 - c) x F' (crashD (sputD byteN (sS c E h) d1 0 c E x) keep)) := by
  have hE : E < 4611686018427387904 := by have := j.e; have := j.le; omega
  have hc := j.si.c2
  have ht := j.tot
  have hfl := frameN_len byteN (snapN (E + 1) x)
  have hsl := snapN_len (E + 1) x
  have hsz := j.sz
  obtain ⟨g1, F', g2, g3⟩ := (j.sw h1 hl).crash (x := x) (by omega) hE (by omega) keep
  have hup : ∀ p : List UInt8, p.length ≤ 316 → (upd F (0 + (1 - c)) p 0).length ≤ 316 ∧ (upd F (0 + (1 - c)) p 1).length ≤ 316 ∧ (upd F (0 + (1 - c)) p 2).length = 0 ∧ (upd F (0 + (1 - c)) p 3).length = 0 := fun p hp => by
    unfold upd
    refine ⟨by split <;> omega, by split <;> omega, by rw [if_neg (by omega)]; omega, by rw [if_neg (by omega)]; omega⟩
  refine ⟨g1, F', ?_⟩
  have he := j.e
  rcases g3 with rfl | ⟨g3, g4⟩
  · exact .inr ⟨hk, by omega, g2.mono (by omega), rfl, j.si.full hE (by omega), hup _ (by omega), by omega⟩
  · rcases g4 with rfl | ⟨p, p1, p2, rfl⟩
    · exact .inl ⟨⟨hk, by omega, g2.mono (by omega), rfl, j.si, hsz, j.hl⟩, g3⟩
    · exact .inl ⟨⟨hk, by omega, g2.mono (by omega), rfl, j.si.torn (by rw [slot_torn (by omega) p1 p2]), hup _ (by omega), j.hl⟩, g3⟩
end
theorem SJ.either {l : List (List UInt8)} {k E c : Nat} {h : List UInt8} {F' : Files} {d2 : DiskD} {x : List UInt8} {r : Int} (n : (SJ l (k + 1) E c h F' d2 ∧ ¬ r = 0) ∨ SJ l (k + 1) (E + 1) (1 - c) x F' d2) : ∃ E' c' h', SJ l (k + 1) E' c' h' F' d2 ∧ ((E' = E ∧ h' = h ∧ ¬ r = 0) ∨ (E' = E + 1 ∧ h' = x)) := by
  rcases n with ⟨n, m⟩ | n
  · exact ⟨E, c, h, n, .inl ⟨rfl, rfl, m⟩⟩
  · exact ⟨_, _, _, n, .inr ⟨rfl, rfl⟩⟩
theorem SJ.yes {l : List (List UInt8)} {k E E' c' : Nat} {h h' : List UInt8} {F' : Files} {d2 : DiskD} {x : List UInt8} {r : Int} (n : SJ l (k + 1) E' c' h' F' d2) (n2 : (E' = E ∧ h' = h ∧ ¬ r = 0) ∨ (E' = E + 1 ∧ h' = x)) (e : (E' : Int) = (E : Int) + 1) : SJ l (k + 1) (E + 1) c' x F' d2 := by
  rcases n2 with ⟨rfl, _⟩ | ⟨rfl, rfl⟩
  · omega
  · exact n
theorem SJ.no {l : List (List UInt8)} {k E E' c' : Nat} {h h' : List UInt8} {F' : Files} {d2 : DiskD} {x : List UInt8} {r : Int} (n : SJ l (k + 1) E' c' h' F' d2) (n2 : (E' = E ∧ h' = h ∧ ¬ r = 0) ∨ (E' = E + 1 ∧ h' = x)) (e : ¬ (E' : Int) = (E : Int) + 1) : SJ l (k + 1) E c' h F' d2 := by
  rcases n2 with ⟨rfl, rfl, _⟩ | ⟨rfl, rfl⟩
  · exact n
  · omega
theorem either_dead {E E' : Nat} {h h' x : List UInt8} {r : Int} (n2 : (E' = E ∧ h' = h ∧ ¬ r = 0) ∨ (E' = E + 1 ∧ h' = x)) (e : r = 0) : (E' : Int) = (E : Int) + 1 := by
  rcases n2 with ⟨_, _, m⟩ | ⟨m, _⟩
  · exact absurd e m
  · omega
set_option maxHeartbeats 1000000 in
theorem again_c (l : List (List UInt8)) (fu ke : List Int) (hfu : ∀ x ∈ fu, x < 9223372036854775808) (hke : ∀ x ∈ ke, -9223372036854775808 ≤ x ∧ x < 9223372036854775808) : AC Try.prog 11 [.sl (rowsA l), .sl (intsA fu), .sl (intsA ke)] (fun r => r = .s (.sc (.bool true))) := by
  refine AC.of' 118 5 Try.func11 rfl ?_
  change AW _ _ _ _ [TK.mk 0 .off, TK.mk 0 .off, TK.mk 0 .off, TK.mk 0 .off, TK.mk 0 .off]
  refine AW.seq ?_
  refine AW.region ?_
  refine AL.ra ?_
  refine AL.nil ?_
  change AW _ _ _ _ _
  refine AW.seq ?_
  refine AW.seq ?_
  refine AW.region ?_
  refine AL.op rfl (AOpB.op (op_call (awake11_c) rfl (by kernel_rfl) rfl (none) ?_))
  rintro r rfl
  refine AL.no ?_
  refine AL.r (rd_un rfl rfl (fun _ => rfl)) ?_
  refine AL.nil ?_
  change AW _ _ _ _ _
  refine AW.cond_f rfl ?_
  refine AW.skip ?_
  change AW _ _ _ _ _
  refine AW.seq ?_
  refine AW.seq ?_
  refine AW.region ?_
  refine AL.rm ?_
  refine AL.r (rd_len_sl rfl el_56 rfl) ?_
  refine AL.r (rd_bin rfl rfl rfl (fun _ => rfl)) ?_
  refine AL.nil ?_
  change AW _ _ _ _ _
  refine AW.cd rfl (fun h23 => ?_) (fun h23 => ?_)
  ·skip
   refine AW.seq ?_
   refine AW.region ?_
   refine AL.ra ?_
   refine AL.nil ?_
   change AW _ _ _ _ _
   refine AW.ret ?_
   change ResA _ _ _ _ _
   refine res1 rfl (ResV.tmp rfl) rfl ?_
   rfl
  ·skip
   refine AW.skip ?_
   change AW _ _ _ _ _
   refine AW.seq ?_
   refine AW.region ?_
   refine AL.op rfl (AOpB.op (op_call (made_c) rfl (by kernel_rfl) rfl (none) ?_))
   rintro r rfl
   refine AL.no ?_
   refine AL.op rfl (AOpB.op (op_taballoc 3 rfl rfl ?_))
   refine AL.no ?_
   refine AL.op rfl (op_tabstore rfl rfl rfl (tabA_len _) rfl sz_Table ?_)
   refine AL.no ?_
   refine AL.nil ?_
   change AW _ _ _ _ _
   refine AW.seq ?_
   refine AW.region ?_
   refine AL.op rfl (calloZ (od_new 100000 (by omega) 0) [0] ?_)
   rintro y os' ⟨rfl, rfl⟩
   refine AL.noZ ?_
   refine AL.rm ?_
   refine AL.r (rd_extract rfl rfl rfl) ?_
   refine AL.r (rd_extract rfl rfl rfl) ?_
   refine AL.ra ?_
   refine AL.ra ?_
   refine AL.nil ?_
   change AW _ _ _ _ _
   refine AW.seq ?_
   refine AW.region ?_
   refine AL.ra ?_
   refine AL.nil ?_
   change AW _ _ _ _ _
   refine AW.seq ?_
   refine AW.region ?_
   refine AL.op rfl (AOpB.op (bs_own 4 rfl ap_29 ze_5 rfl rfl rfl ?_))
   refine AL.no ?_
   refine AL.ra ?_
   refine AL.nil ?_
   change AW _ _ _ _ _
   refine AW.seq ?_
   refine AW.seq ?_
   refine AW.region ?_
   refine AL.settle 11 rfl rfl (by first | rfl | exact cont_owM _ _ _ _) ?_
   refine AL.no ?_
   refine AL.ra ?_
   refine AL.nil ?_
   change AW _ _ _ _ _
   refine AW.block ?_
   refine AW.loopM (ι := Nat × Nat × Nat × List UInt8 × Files × DiskD) [6, 13, 14, 15, 16, 17, 18, 30, 31, 32, 33, 34, 35, 36, 37, 38, 39, 40, 41, 42, 43, 44, 45, 46, 47, 48, 49, 50, 51, 52, 53, 54, 55, 56, 57, 58, 59, 60, 61, 62, 63, 64, 65, 66, 67, 68, 69, 70, 71, 72, 73, 74, 75, 76, 77, 78, 79, 80, 81, 82, 83, 84, 85, 86, 87, 88, 89, 90, 91, 92, 93, 94, 95, 96, 97, 98, 99, 100, 101, 102, 103, 104, 105, 106, 107, 108, 109, 110, 111, 112, 113, 114, 115, 116, 117, 118, 119, 120] (fun ⟨k, E, c, h, F, d⟩ => [(12, .sc (.int .i64 (k : Int))), (10, .sc (.int .i64 (E : Int))), (11, .sl (byA h))]) [1, 2] (fun ⟨k, E, c, h, F, d⟩ => [(0, ⟨1, .obj (DiskP d)⟩)]) (fun ⟨k, E, c, h, F, d⟩ => SJ l k E c h F d) (fun ⟨k, E, c, h, F, d⟩ => l.length - k) (0, 0, 1, [], fun _ => [], newD 100000) (sj_new l) (by simp only [anys, upds, offs, List.set_cons_zero, List.set_cons_succ]; repeat (first | exact Wk.nil | refine Wk.same ?_ | refine Wk.any ?_)) (by simp only [anys, upds, offs, List.set_cons_zero, List.set_cons_succ]; repeat (first | exact Sk.nil _ | refine Sk.same _ ?_ | refine Sk.scr _ (by decide) ?_ | refine Sk.eq _ (by rfl) ?_)) ?_
   rintro ⟨k, E, c, h, F, d⟩ gs hJ
   refine AW.norm (by simp only [anys, upds, offs, List.set_cons_zero, List.set_cons_succ]; rfl) (by (try simp only [anys, upds, offs, List.set_cons_zero, List.set_cons_succ]); (try rfl)) ?_
   have hk := hJ.le
   have hE := hJ.e
   refine AW.seq ?_
   refine AW.seq ?_
   refine AW.region ?_
   refine AL.rm ?_
   refine AL.rm ?_
   refine AL.r (rd_len_sl rfl el_56 rfl) ?_
   refine AL.r (rd_bin rfl rfl rfl (fun _ => rfl)) ?_
   refine AL.nil ?_
   change AW _ _ _ _ _
   refine AW.cd rfl (fun h33 => ?_) (fun h33 => ?_)
   ·skip
    refine AW.skip ?_
    change AW _ _ _ _ _
    refine AW.seq ?_
    refine AW.block ?_
    refine AW.seq ?_
    refine AW.seq ?_
    refine AW.region ?_
    have hkl : k < l.length := (by simp only [rowsA_len] at *; omega)
    refine AL.rm ?_
    refine AL.rm ?_
    refine AL.r (rd_iaddr_sl rfl el_56 rfl rfl rfl (get_mapA (by omega)) rfl) ?_
    refine AL.r (rd_load_ep rfl ag_29 rfl rfl) ?_
    refine AL.r (rd_len_sl rfl el_29 rfl) ?_
    refine AL.r (rd_bin rfl rfl rfl (fun _ => rfl)) ?_
    refine AL.nil ?_
    change AW _ _ _ _ _
    refine AW.cd rfl (fun h41 => ?_) (fun h41 => ?_)
    ·skip
     refine AW.seq ?_
     refine AW.region ?_
     refine AL.ra ?_
     refine AL.nil ?_
     change AW _ _ _ _ _
     refine AW.ret ?_
     change ResA _ _ _ _ _
     refine res1 rfl (ResV.tmp rfl) rfl ?_
     rfl
    ·skip
     refine AW.skip ?_
     change AW _ _ _ _ _
     refine AW.seq ?_
     refine AW.region ?_
     refine AL.rm ?_
     refine AL.r (rd_tab0 rfl ag_53 rfl rfl) ?_
     refine AL.op rfl (calloZ (sopen_v byteN byte_tab d hJ.rest.gro.ok (by omega) 1 (gs 1) 0 (by omega) hJ.rest.dark hJ.opens rfl rfl) [0, 1] ?_)
     rintro y os' ⟨rfl, rfl⟩
     refine AL.noZ ?_
     refine AL.rm ?_
     refine AL.r (rd_extract rfl rfl rfl) ?_
     refine AL.r (rd_extract rfl rfl rfl) ?_
     refine AL.ra ?_
     refine AL.ra ?_
     refine AL.nil ?_
     change AW _ _ _ _ _
     refine AW.seq ?_
     refine AW.seq ?_
     refine AW.drawA (by kernel_rfl) ?_
     refine ADA.r 0 rfl (ARdP.a (rdP_move rfl rfl)) rfl ?_
     refine ADA.r 1 rfl (ARdP.a (rdP_bin rfl rfl rfl (fun _ => rfl))) rfl ?_
     refine ADA.r 2 rfl (ARdP.a (rdP_move rfl rfl)) rfl ?_
     refine ADA.r 3 rfl (ARdP.a (rdP_move rfl rfl)) ⟨_, _, rfl, rfl, rfl⟩ ?_
     refine ADA.r 5 rfl (ARdP.a (rdP_move rfl rfl)) ⟨_, _, rfl, rfl, rfl⟩ ?_
     refine ADA.b ?_
     refine ADB.mv 4 rfl (calloZ (sepoch_c (gs 1 + 1) 1 byteN (sS c E h) d) [1, 0] ?_)
     rintro y os' ⟨rfl, rfl⟩
     refine ADB.noZ ?_
     refine ADB.r 6 rfl (rdP_bin rfl rfl rfl (fun _ => rfl)) ⟨_, _, rfl, rfl, rfl⟩ ?_
     refine ADB.r 7 rfl (rdP_pick_f rfl rfl rfl) rfl ?_
     refine ADB.r 8 rfl (rdP_move rfl rfl) rfl ?_
     refine ADB.fk (d := 56) rfl (fun h56 => ?_) (fun h56 => ?_)
     ·skip
      refine ADB.n ?_
      refine ADB.s 9 rfl ⟨_, _, rfl, rfl, rfl⟩ ?_
      refine ADB.s 10 rfl ⟨_, _, rfl, rfl, rfl⟩ ?_
      refine ADB.s 11 rfl ⟨_, _, rfl, rfl, rfl⟩ ?_
      refine ADB.s 12 rfl ⟨_, _, rfl, rfl, rfl⟩ ?_
      refine ADB.s 13 rfl ⟨_, _, rfl, rfl, rfl⟩ ?_
      refine ADB.s 14 rfl ⟨_, _, rfl, rfl, rfl⟩ ?_
      refine ADB.r 15 rfl (rdP_pick_t rfl rfl rfl) rfl ?_
      refine ADB.done (by kernel_rfl) ?_
      change AW _ _ _ _ _
      refine AW.cond_t rfl ?_
      refine AW.seq ?_
      first | exact (h56 rfl).elim | exact (h63 rfl).elim
     ·skip
      refine ADB.n ?_
      refine ADB.r 9 rfl (rdP_move rfl rfl) ⟨_, _, rfl, rfl, rfl⟩ ?_
      refine ADB.r 12 rfl (rdP_move rfl rfl) ⟨_, _, rfl, rfl, rfl⟩ ?_
      refine ADB.all (is := [10, 13]) (by kernel_rfl) (by simp) ?_
      intro i hi
      simp only [List.mem_cons, List.not_mem_nil, or_false] at hi
      rcases hi with rfl | rfl
      ·skip
       refine ⟨_, rfl, ⟨_, _, rfl, rfl, rfl⟩, calloZ (sbytes_v (gs 1 + 1) 1 byteN (sS c E h) d rfl (Nat.le_trans hJ.hl (by decide))) [1, 0] ?_⟩
       rintro y os' ⟨rfl, rfl⟩
       refine ADB.noZ ?_
       refine ADB.all (is := [11, 13]) (by kernel_rfl) (by simp) ?_
       intro i hi
       simp only [List.mem_cons, List.not_mem_nil, or_false] at hi
       rcases hi with rfl | rfl
       ·skip
        refine ⟨_, rfl, ⟨_, _, rfl, rfl, rfl⟩, AOpB.op (ARd.opB (rd_b2s rfl (by kernel_rfl) (src_s rfl)) ?_)⟩
        refine ADB.n ?_
        refine ADB.mv 13 rfl (AOpB.op (ARd.opB (rd_b2s rfl (by kernel_rfl) (src_s rfl)) ?_))
        refine ADB.n ?_
        refine ADB.r 14 rfl (rdP_sne rfl rfl rfl) ⟨_, _, rfl, rfl, rfl⟩ ?_
        refine ADB.r 15 rfl (rdP_pick_f rfl rfl rfl) rfl ?_
        refine ADB.done (by kernel_rfl) ?_
        change AW _ _ _ _ _
        refine AW.cd rfl (fun h63 => ?_) (fun h63 => ?_)
        ·skip
         refine AW.seq ?_
         first | exact (h56 rfl).elim | exact (h63 rfl).elim
        ·skip
         refine AW.skip ?_
         change AW _ _ _ _ _
         refine AW.join (ι := DiskD) [64, 65, 66, 67, 68, 69, 70, 71, 72, 73] (fun d1 => []) [] (fun d1 => [(0, ⟨1, .obj (DiskP d1)⟩)]) (fun d1 => Rest 100000 (10 * k) F d1) ?_ ?_
         ·skip
          refine AW.seq ?_
          refine AW.region ?_
          refine AL.rm ?_
          refine AL.rm ?_
          refine AL.r (rd_len_sl rfl el_81 rfl) ?_
          refine AL.r (rd_bin rfl rfl rfl (fun _ => rfl)) ?_
          refine AL.nil ?_
          change AW _ _ _ _ _
          refine AW.cd rfl (fun h67 => ?_) (fun h67 => ?_)
          ·skip
           refine AW.region ?_
           have hfl : k < fu.length := (by simp only [intsA_len] at h67; omega)
           refine AL.rm ?_
           refine AL.rm ?_
           refine AL.rm ?_
           refine AL.r (rd_iaddr_sl rfl el_81 rfl rfl rfl (get_mapA (by omega)) rfl) ?_
           refine AL.r (rd_load_ep rfl ag_3 rfl rfl) ?_
           refine AL.op rfl (calloZ (od_fuse d 1 fu[k]) [0] ?_)
           rintro y os' ⟨rfl, rfl⟩
           refine AL.noZ ?_
           refine AL.nil ?_
           refine ⟨fuseD d fu[k], hJ.rest.fuse _ (hfu _ (List.getElem_mem _)), (by simp only [anys, upds, offs, List.set_cons_zero, List.set_cons_succ]; repeat (first | exact Wk.nil | refine Wk.same ?_ | refine Wk.any ?_)), (by simp only [anys, upds, offs, List.set_cons_zero, List.set_cons_succ]; repeat (first | exact Sk.nil _ | refine Sk.same _ ?_ | refine Sk.scr _ (by decide) ?_))⟩
          ·skip
           refine AW.skip ?_
           refine ⟨d, hJ.rest, (by simp only [anys, upds, offs, List.set_cons_zero, List.set_cons_succ]; repeat (first | exact Wk.nil | refine Wk.same ?_ | refine Wk.any ?_)), (by simp only [anys, upds, offs, List.set_cons_zero, List.set_cons_succ]; repeat (first | exact Sk.nil _ | refine Sk.same _ ?_ | refine Sk.scr _ (by decide) ?_))⟩
         ·rintro d1 gs67 hJ67
          refine AW.norm (by simp only [anys, upds, offs, List.set_cons_zero, List.set_cons_succ]; rfl) (by (try simp only [anys, upds, offs, List.set_cons_zero, List.set_cons_succ]); (try rfl)) ?_
          (try dsimp only at hJ67)
          change AW _ _ _ _ _
          refine AW.seq ?_
          refine AW.region ?_
          have hR1 : Rest 100000 (10 * k) F d1 := hJ67
          have hll : l.length ≤ 12 := (by simp only [rowsA_len] at *; omega)
          have hlk : l[k].length ≤ 300 := (by simp only [byA_len] at *; omega)
          have hSw := hJ.sw hR1 hll
          refine AL.rm ?_
          refine AL.rm ?_
          refine AL.rm ?_
          refine AL.r (rd_iaddr_sl rfl el_56 rfl rfl rfl (get_mapA (by omega)) rfl) ?_
          refine AL.r (rd_load_ep rfl ag_29 rfl rfl) ?_
          refine AL.op rfl (calloZ (sput_c (gs 1 + 1) 1 byteN byte_tab (sS c E h) d1 hR1.gro.ok (by omega) hSw.pos l[k]) [1, 0] ?_)
          rintro y os' ⟨rfl, rfl⟩
          refine AL.noZ ?_
          refine AL.ra ?_
          refine AL.nil ?_
          change AW _ _ _ _ _
          refine AW.seq ?_
          refine AW.region ?_
          refine AL.ra ?_
          refine AL.nil ?_
          change AW _ _ _ _ _
          refine AW.join (ι := Int) [80, 81, 82, 83, 84, 85, 86, 87] (fun kp => [(16, .sc (.int .i64 kp))]) [] (fun kp => []) (fun kp => -9223372036854775808 ≤ kp ∧ kp < 9223372036854775808) ?_ ?_
          ·skip
           refine AW.seq ?_
           refine AW.region ?_
           refine AL.rm ?_
           refine AL.rm ?_
           refine AL.r (rd_len_sl rfl el_81 rfl) ?_
           refine AL.r (rd_bin rfl rfl rfl (fun _ => rfl)) ?_
           refine AL.nil ?_
           change AW _ _ _ _ _
           refine AW.cd rfl (fun h83 => ?_) (fun h83 => ?_)
           ·skip
            refine AW.region ?_
            have hkl2 : k < ke.length := (by simp only [intsA_len] at h83; omega)
            refine AL.rm ?_
            refine AL.rm ?_
            refine AL.r (rd_iaddr_sl rfl el_81 rfl rfl rfl (get_mapA (by omega)) rfl) ?_
            refine AL.r (rd_load_ep rfl ag_3 rfl rfl) ?_
            refine AL.ra ?_
            refine AL.nil ?_
            refine ⟨ke[k], hke _ (List.getElem_mem _), (by simp only [anys, upds, offs, List.set_cons_zero, List.set_cons_succ]; repeat (first | exact Wk.nil | refine Wk.same ?_ | refine Wk.any ?_)), (by simp only [anys, upds, offs, List.set_cons_zero, List.set_cons_succ]; repeat (first | exact Sk.nil _ | refine Sk.same _ ?_ | refine Sk.scr _ (by decide) ?_))⟩
           ·skip
            refine AW.skip ?_
            refine ⟨0, by omega, (by simp only [anys, upds, offs, List.set_cons_zero, List.set_cons_succ]; repeat (first | exact Wk.nil | refine Wk.same ?_ | refine Wk.any ?_)), (by simp only [anys, upds, offs, List.set_cons_zero, List.set_cons_succ]; repeat (first | exact Sk.nil _ | refine Sk.same _ ?_ | refine Sk.scr _ (by decide) ?_))⟩
          ·rintro kp gs83 hJ83
           refine AW.norm (by simp only [anys, upds, offs, List.set_cons_zero, List.set_cons_succ]; rfl) (by (try simp only [anys, upds, offs, List.set_cons_zero, List.set_cons_succ]); (try rfl)) ?_
           (try dsimp only at hJ83)
           change AW _ _ _ _ _
           refine AW.seq ?_
           refine AW.region ?_
           obtain ⟨n1, F', n2⟩ := hJ.next hR1 hll hkl hlk kp
           refine AL.rm ?_
           refine AL.rm ?_
           refine AL.op rfl (calloZ (ok_crash n1 (by omega) 1 kp hJ83) [0] ?_)
           rintro y os' ⟨rfl, rfl⟩
           refine AL.noZ ?_
           refine AL.nil ?_
           change AW _ _ _ _ _
           refine AW.seq ?_
           refine AW.region ?_
           obtain ⟨E2, c2, h2, n3, n4⟩ := SJ.either n2
           refine AL.rm ?_
           refine AL.r (rd_tab0 rfl ag_53 rfl rfl) ?_
           refine AL.op rfl (calloZ (sopen_v byteN byte_tab (crashD (sputD byteN (sS c E h) d1 0 c E l[k]) kp) n3.rest.gro.ok (by omega) 1 (gs 2) 0 (by omega) n3.rest.dark n3.opens rfl rfl) [0, 2] ?_)
           rintro y os' ⟨rfl, rfl⟩
           refine AL.noZ ?_
           refine AL.rm ?_
           refine AL.r (rd_extract rfl rfl rfl) ?_
           refine AL.r (rd_extract rfl rfl rfl) ?_
           refine AL.ra ?_
           refine AL.ra ?_
           refine AL.nil ?_
           change AW _ _ _ _ _
           refine AW.join (ι := Unit) [6, 97, 98, 99, 100, 101, 102, 103, 104, 105, 106, 107, 108, 109] (fun u1 => []) [] (fun u1 => []) (fun u1 => True) ?_ ?_
           ·skip
            refine AW.seq ?_
            refine AW.region ?_
            refine AL.rm ?_
            refine AL.r (rd_bin rfl rfl rfl (fun _ => rfl)) ?_
            refine AL.rm ?_
            refine AL.ro (rd_move rfl rfl) ?_
            refine AL.ro (rd_bin rfl rfl rfl (fun _ => rfl)) ?_
            refine AL.ro (rd_move rfl rfl) ?_
            refine AL.fk (d := 102) rfl (fun h102 => ?_) (fun h102 => ?_)
            ·skip
             refine AL.n ?_
             refine AL.ro (rd_move rfl rfl) ?_
             refine AL.on rfl rfl rfl (calloZ (sepoch_c (gs 2 + 1) 1 byteN (sS c2 E2 h2) (crashD (sputD byteN (sS c E h) d1 0 c E l[k]) kp)) [2, 0] ?_)
             rintro y os' ⟨rfl, rfl⟩
             refine AL.noZ ?_
             refine AL.ro (rd_move rfl rfl) ?_
             refine AL.ro (rd_arith_add rfl rfl rfl (by first | exact IntWalk.i64_in _ (by omega) | rfl)) ?_
             refine AL.ro (rd_bin rfl rfl rfl (fun _ => rfl)) ?_
             refine AL.ro (rd_pick_t rfl rfl rfl) ?_
             refine AL.r (rd_pick_f rfl rfl rfl) ?_
             refine AL.nil ?_
             change AW _ _ _ _ _
             refine AW.cd rfl (fun h109 => ?_) (fun h109 => ?_)
             ·skip
              refine AW.seq ?_
              exact (h109 (either_dead n4 h102)).elim
             ·skip
              refine AW.skip ?_
              refine ⟨(), trivial, (by simp only [anys, upds, offs, List.set_cons_zero, List.set_cons_succ]; repeat (first | exact Wk.nil | refine Wk.same ?_ | refine Wk.any ?_)), (by simp only [anys, upds, offs, List.set_cons_zero, List.set_cons_succ]; repeat (first | exact Sk.nil _ | refine Sk.same _ ?_ | refine Sk.scr _ (by decide) ?_))⟩
            ·skip
             refine AL.n ?_
             refine AL.rf ?_
             refine AL.rf ?_
             refine AL.rf ?_
             refine AL.rf ?_
             refine AL.rf ?_
             refine AL.ro (rd_pick_f rfl rfl rfl) ?_
             refine AL.r (rd_pick_f rfl rfl rfl) ?_
             refine AL.nil ?_
             change AW _ _ _ _ _
             refine AW.cond_f rfl ?_
             refine AW.skip ?_
             refine ⟨(), trivial, (by simp only [anys, upds, offs, List.set_cons_zero, List.set_cons_succ]; repeat (first | exact Wk.nil | refine Wk.same ?_ | refine Wk.any ?_)), (by simp only [anys, upds, offs, List.set_cons_zero, List.set_cons_succ]; repeat (first | exact Sk.nil _ | refine Sk.same _ ?_ | refine Sk.scr _ (by decide) ?_))⟩
           ·rintro u1 gs109 hJ109
            refine AW.norm (by simp only [anys, upds, offs, List.set_cons_zero, List.set_cons_succ]; rfl) (by (try simp only [anys, upds, offs, List.set_cons_zero, List.set_cons_succ]); (try rfl)) ?_
            (try dsimp only at hJ109)
            change AW _ _ _ _ _
            refine AW.seq ?_
            refine AW.region ?_
            refine AL.rm ?_
            refine AL.op rfl (calloZ (sepoch_c (gs 2 + 1) 1 byteN (sS c2 E2 h2) (crashD (sputD byteN (sS c E h) d1 0 c E l[k]) kp)) [2, 0] ?_)
            rintro y os' ⟨rfl, rfl⟩
            refine AL.noZ ?_
            refine AL.rm ?_
            refine AL.r (rd_arith_add rfl rfl rfl (by first | exact IntWalk.i64_in _ (by omega) | rfl)) ?_
            refine AL.r (rd_bin rfl rfl rfl (fun _ => rfl)) ?_
            refine AL.nil ?_
            change AW _ _ _ _ _
            refine AW.cd rfl (fun h114 => ?_) (fun h114 => ?_)
            ·skip
             refine AW.seq ?_
             refine AW.region ?_
             refine AL.rm ?_
             refine AL.r (rd_arith_add rfl rfl rfl (by first | exact IntWalk.i64_in _ (by omega) | rfl)) ?_
             refine AL.ra ?_
             refine AL.nil ?_
             change AW _ _ _ _ _
             refine AW.region ?_
             refine AL.rm ?_
             refine AL.rm ?_
             refine AL.r (rd_iaddr_sl rfl el_56 rfl rfl rfl (get_mapA (by omega)) rfl) ?_
             refine AL.r (rd_load_ep rfl ag_29 rfl rfl) ?_
             refine AL.ra ?_
             refine AL.nil ?_
             change AW _ _ _ _ _
             refine AW.region ?_
             refine AL.rm ?_
             refine AL.r (rd_arith_add rfl rfl rfl (by first | exact IntWalk.i64_in _ (by omega) | rfl)) ?_
             refine AL.ra ?_
             refine AL.nil ?_
             refine ⟨(k + 1, E + 1, c2, l[k], F', crashD (sputD byteN (sS c E h) d1 0 c E l[k]) kp), ?_, by first | omega | (simp only []; omega), ?_, ?_⟩
             ·exact n3.yes n4 h114
             ·simp only [anys, upds, offs, List.set_cons_zero, List.set_cons_succ]; repeat (first | exact Wk.nil | refine Wk.same ?_ | refine Wk.any ?_)
             ·simp only [anys, upds, offs, List.set_cons_zero, List.set_cons_succ]; repeat (first | exact Sk.nil _ | refine Sk.same _ ?_ | refine Sk.scr _ (by decide) ?_)
            ·skip
             refine AW.skip ?_
             change AW _ _ _ _ _
             refine AW.region ?_
             refine AL.rm ?_
             refine AL.r (rd_arith_add rfl rfl rfl (by first | exact IntWalk.i64_in _ (by omega) | rfl)) ?_
             refine AL.ra ?_
             refine AL.nil ?_
             refine ⟨(k + 1, E, c2, h, F', crashD (sputD byteN (sS c E h) d1 0 c E l[k]) kp), ?_, by first | omega | (simp only []; omega), ?_, ?_⟩
             ·exact n3.no n4 h114
             ·simp only [anys, upds, offs, List.set_cons_zero, List.set_cons_succ]; repeat (first | exact Wk.nil | refine Wk.same ?_ | refine Wk.any ?_)
             ·simp only [anys, upds, offs, List.set_cons_zero, List.set_cons_succ]; repeat (first | exact Sk.nil _ | refine Sk.same _ ?_ | refine Sk.scr _ (by decide) ?_)
       ·skip
        refine ⟨_, rfl, ⟨_, _, rfl, rfl, rfl⟩, AOpB.op (ARd.opB (rd_b2s rfl (by kernel_rfl) (src_s rfl)) ?_)⟩
        refine ADB.n ?_
        refine ADB.mv 11 rfl (AOpB.op (ARd.opB (rd_b2s rfl (by kernel_rfl) (src_s rfl)) ?_))
        refine ADB.n ?_
        refine ADB.r 14 rfl (rdP_sne rfl rfl rfl) ⟨_, _, rfl, rfl, rfl⟩ ?_
        refine ADB.r 15 rfl (rdP_pick_f rfl rfl rfl) rfl ?_
        refine ADB.done (by kernel_rfl) ?_
        change AW _ _ _ _ _
        refine AW.cd rfl (fun h63 => ?_) (fun h63 => ?_)
        ·skip
         refine AW.seq ?_
         first | exact (h56 rfl).elim | exact (h63 rfl).elim
        ·skip
         refine AW.skip ?_
         change AW _ _ _ _ _
         refine AW.join (ι := DiskD) [64, 65, 66, 67, 68, 69, 70, 71, 72, 73] (fun d1 => []) [] (fun d1 => [(0, ⟨1, .obj (DiskP d1)⟩)]) (fun d1 => Rest 100000 (10 * k) F d1) ?_ ?_
         ·skip
          refine AW.seq ?_
          refine AW.region ?_
          refine AL.rm ?_
          refine AL.rm ?_
          refine AL.r (rd_len_sl rfl el_81 rfl) ?_
          refine AL.r (rd_bin rfl rfl rfl (fun _ => rfl)) ?_
          refine AL.nil ?_
          change AW _ _ _ _ _
          refine AW.cd rfl (fun h67 => ?_) (fun h67 => ?_)
          ·skip
           refine AW.region ?_
           have hfl : k < fu.length := (by simp only [intsA_len] at h67; omega)
           refine AL.rm ?_
           refine AL.rm ?_
           refine AL.rm ?_
           refine AL.r (rd_iaddr_sl rfl el_81 rfl rfl rfl (get_mapA (by omega)) rfl) ?_
           refine AL.r (rd_load_ep rfl ag_3 rfl rfl) ?_
           refine AL.op rfl (calloZ (od_fuse d 1 fu[k]) [0] ?_)
           rintro y os' ⟨rfl, rfl⟩
           refine AL.noZ ?_
           refine AL.nil ?_
           refine ⟨fuseD d fu[k], hJ.rest.fuse _ (hfu _ (List.getElem_mem _)), (by simp only [anys, upds, offs, List.set_cons_zero, List.set_cons_succ]; repeat (first | exact Wk.nil | refine Wk.same ?_ | refine Wk.any ?_)), (by simp only [anys, upds, offs, List.set_cons_zero, List.set_cons_succ]; repeat (first | exact Sk.nil _ | refine Sk.same _ ?_ | refine Sk.scr _ (by decide) ?_))⟩
          ·skip
           refine AW.skip ?_
           refine ⟨d, hJ.rest, (by simp only [anys, upds, offs, List.set_cons_zero, List.set_cons_succ]; repeat (first | exact Wk.nil | refine Wk.same ?_ | refine Wk.any ?_)), (by simp only [anys, upds, offs, List.set_cons_zero, List.set_cons_succ]; repeat (first | exact Sk.nil _ | refine Sk.same _ ?_ | refine Sk.scr _ (by decide) ?_))⟩
         ·rintro d1 gs67 hJ67
          refine AW.norm (by simp only [anys, upds, offs, List.set_cons_zero, List.set_cons_succ]; rfl) (by (try simp only [anys, upds, offs, List.set_cons_zero, List.set_cons_succ]); (try rfl)) ?_
          (try dsimp only at hJ67)
          change AW _ _ _ _ _
          refine AW.seq ?_
          refine AW.region ?_
          have hR1 : Rest 100000 (10 * k) F d1 := hJ67
          have hll : l.length ≤ 12 := (by simp only [rowsA_len] at *; omega)
          have hlk : l[k].length ≤ 300 := (by simp only [byA_len] at *; omega)
          have hSw := hJ.sw hR1 hll
          refine AL.rm ?_
          refine AL.rm ?_
          refine AL.rm ?_
          refine AL.r (rd_iaddr_sl rfl el_56 rfl rfl rfl (get_mapA (by omega)) rfl) ?_
          refine AL.r (rd_load_ep rfl ag_29 rfl rfl) ?_
          refine AL.op rfl (calloZ (sput_c (gs 1 + 1) 1 byteN byte_tab (sS c E h) d1 hR1.gro.ok (by omega) hSw.pos l[k]) [1, 0] ?_)
          rintro y os' ⟨rfl, rfl⟩
          refine AL.noZ ?_
          refine AL.ra ?_
          refine AL.nil ?_
          change AW _ _ _ _ _
          refine AW.seq ?_
          refine AW.region ?_
          refine AL.ra ?_
          refine AL.nil ?_
          change AW _ _ _ _ _
          refine AW.join (ι := Int) [80, 81, 82, 83, 84, 85, 86, 87] (fun kp => [(16, .sc (.int .i64 kp))]) [] (fun kp => []) (fun kp => -9223372036854775808 ≤ kp ∧ kp < 9223372036854775808) ?_ ?_
          ·skip
           refine AW.seq ?_
           refine AW.region ?_
           refine AL.rm ?_
           refine AL.rm ?_
           refine AL.r (rd_len_sl rfl el_81 rfl) ?_
           refine AL.r (rd_bin rfl rfl rfl (fun _ => rfl)) ?_
           refine AL.nil ?_
           change AW _ _ _ _ _
           refine AW.cd rfl (fun h83 => ?_) (fun h83 => ?_)
           ·skip
            refine AW.region ?_
            have hkl2 : k < ke.length := (by simp only [intsA_len] at h83; omega)
            refine AL.rm ?_
            refine AL.rm ?_
            refine AL.r (rd_iaddr_sl rfl el_81 rfl rfl rfl (get_mapA (by omega)) rfl) ?_
            refine AL.r (rd_load_ep rfl ag_3 rfl rfl) ?_
            refine AL.ra ?_
            refine AL.nil ?_
            refine ⟨ke[k], hke _ (List.getElem_mem _), (by simp only [anys, upds, offs, List.set_cons_zero, List.set_cons_succ]; repeat (first | exact Wk.nil | refine Wk.same ?_ | refine Wk.any ?_)), (by simp only [anys, upds, offs, List.set_cons_zero, List.set_cons_succ]; repeat (first | exact Sk.nil _ | refine Sk.same _ ?_ | refine Sk.scr _ (by decide) ?_))⟩
           ·skip
            refine AW.skip ?_
            refine ⟨0, by omega, (by simp only [anys, upds, offs, List.set_cons_zero, List.set_cons_succ]; repeat (first | exact Wk.nil | refine Wk.same ?_ | refine Wk.any ?_)), (by simp only [anys, upds, offs, List.set_cons_zero, List.set_cons_succ]; repeat (first | exact Sk.nil _ | refine Sk.same _ ?_ | refine Sk.scr _ (by decide) ?_))⟩
          ·rintro kp gs83 hJ83
           refine AW.norm (by simp only [anys, upds, offs, List.set_cons_zero, List.set_cons_succ]; rfl) (by (try simp only [anys, upds, offs, List.set_cons_zero, List.set_cons_succ]); (try rfl)) ?_
           (try dsimp only at hJ83)
           change AW _ _ _ _ _
           refine AW.seq ?_
           refine AW.region ?_
           obtain ⟨n1, F', n2⟩ := hJ.next hR1 hll hkl hlk kp
           refine AL.rm ?_
           refine AL.rm ?_
           refine AL.op rfl (calloZ (ok_crash n1 (by omega) 1 kp hJ83) [0] ?_)
           rintro y os' ⟨rfl, rfl⟩
           refine AL.noZ ?_
           refine AL.nil ?_
           change AW _ _ _ _ _
           refine AW.seq ?_
           refine AW.region ?_
           obtain ⟨E2, c2, h2, n3, n4⟩ := SJ.either n2
           refine AL.rm ?_
           refine AL.r (rd_tab0 rfl ag_53 rfl rfl) ?_
           refine AL.op rfl (calloZ (sopen_v byteN byte_tab (crashD (sputD byteN (sS c E h) d1 0 c E l[k]) kp) n3.rest.gro.ok (by omega) 1 (gs 2) 0 (by omega) n3.rest.dark n3.opens rfl rfl) [0, 2] ?_)
           rintro y os' ⟨rfl, rfl⟩
           refine AL.noZ ?_
           refine AL.rm ?_
           refine AL.r (rd_extract rfl rfl rfl) ?_
           refine AL.r (rd_extract rfl rfl rfl) ?_
           refine AL.ra ?_
           refine AL.ra ?_
           refine AL.nil ?_
           change AW _ _ _ _ _
           refine AW.join (ι := Unit) [6, 97, 98, 99, 100, 101, 102, 103, 104, 105, 106, 107, 108, 109] (fun u1 => []) [] (fun u1 => []) (fun u1 => True) ?_ ?_
           ·skip
            refine AW.seq ?_
            refine AW.region ?_
            refine AL.rm ?_
            refine AL.r (rd_bin rfl rfl rfl (fun _ => rfl)) ?_
            refine AL.rm ?_
            refine AL.ro (rd_move rfl rfl) ?_
            refine AL.ro (rd_bin rfl rfl rfl (fun _ => rfl)) ?_
            refine AL.ro (rd_move rfl rfl) ?_
            refine AL.fk (d := 102) rfl (fun h102 => ?_) (fun h102 => ?_)
            ·skip
             refine AL.n ?_
             refine AL.ro (rd_move rfl rfl) ?_
             refine AL.on rfl rfl rfl (calloZ (sepoch_c (gs 2 + 1) 1 byteN (sS c2 E2 h2) (crashD (sputD byteN (sS c E h) d1 0 c E l[k]) kp)) [2, 0] ?_)
             rintro y os' ⟨rfl, rfl⟩
             refine AL.noZ ?_
             refine AL.ro (rd_move rfl rfl) ?_
             refine AL.ro (rd_arith_add rfl rfl rfl (by first | exact IntWalk.i64_in _ (by omega) | rfl)) ?_
             refine AL.ro (rd_bin rfl rfl rfl (fun _ => rfl)) ?_
             refine AL.ro (rd_pick_t rfl rfl rfl) ?_
             refine AL.r (rd_pick_f rfl rfl rfl) ?_
             refine AL.nil ?_
             change AW _ _ _ _ _
             refine AW.cd rfl (fun h109 => ?_) (fun h109 => ?_)
             ·skip
              refine AW.seq ?_
              exact (h109 (either_dead n4 h102)).elim
             ·skip
              refine AW.skip ?_
              refine ⟨(), trivial, (by simp only [anys, upds, offs, List.set_cons_zero, List.set_cons_succ]; repeat (first | exact Wk.nil | refine Wk.same ?_ | refine Wk.any ?_)), (by simp only [anys, upds, offs, List.set_cons_zero, List.set_cons_succ]; repeat (first | exact Sk.nil _ | refine Sk.same _ ?_ | refine Sk.scr _ (by decide) ?_))⟩
            ·skip
             refine AL.n ?_
             refine AL.rf ?_
             refine AL.rf ?_
             refine AL.rf ?_
             refine AL.rf ?_
             refine AL.rf ?_
             refine AL.ro (rd_pick_f rfl rfl rfl) ?_
             refine AL.r (rd_pick_f rfl rfl rfl) ?_
             refine AL.nil ?_
             change AW _ _ _ _ _
             refine AW.cond_f rfl ?_
             refine AW.skip ?_
             refine ⟨(), trivial, (by simp only [anys, upds, offs, List.set_cons_zero, List.set_cons_succ]; repeat (first | exact Wk.nil | refine Wk.same ?_ | refine Wk.any ?_)), (by simp only [anys, upds, offs, List.set_cons_zero, List.set_cons_succ]; repeat (first | exact Sk.nil _ | refine Sk.same _ ?_ | refine Sk.scr _ (by decide) ?_))⟩
           ·rintro u1 gs109 hJ109
            refine AW.norm (by simp only [anys, upds, offs, List.set_cons_zero, List.set_cons_succ]; rfl) (by (try simp only [anys, upds, offs, List.set_cons_zero, List.set_cons_succ]); (try rfl)) ?_
            (try dsimp only at hJ109)
            change AW _ _ _ _ _
            refine AW.seq ?_
            refine AW.region ?_
            refine AL.rm ?_
            refine AL.op rfl (calloZ (sepoch_c (gs 2 + 1) 1 byteN (sS c2 E2 h2) (crashD (sputD byteN (sS c E h) d1 0 c E l[k]) kp)) [2, 0] ?_)
            rintro y os' ⟨rfl, rfl⟩
            refine AL.noZ ?_
            refine AL.rm ?_
            refine AL.r (rd_arith_add rfl rfl rfl (by first | exact IntWalk.i64_in _ (by omega) | rfl)) ?_
            refine AL.r (rd_bin rfl rfl rfl (fun _ => rfl)) ?_
            refine AL.nil ?_
            change AW _ _ _ _ _
            refine AW.cd rfl (fun h114 => ?_) (fun h114 => ?_)
            ·skip
             refine AW.seq ?_
             refine AW.region ?_
             refine AL.rm ?_
             refine AL.r (rd_arith_add rfl rfl rfl (by first | exact IntWalk.i64_in _ (by omega) | rfl)) ?_
             refine AL.ra ?_
             refine AL.nil ?_
             change AW _ _ _ _ _
             refine AW.region ?_
             refine AL.rm ?_
             refine AL.rm ?_
             refine AL.r (rd_iaddr_sl rfl el_56 rfl rfl rfl (get_mapA (by omega)) rfl) ?_
             refine AL.r (rd_load_ep rfl ag_29 rfl rfl) ?_
             refine AL.ra ?_
             refine AL.nil ?_
             change AW _ _ _ _ _
             refine AW.region ?_
             refine AL.rm ?_
             refine AL.r (rd_arith_add rfl rfl rfl (by first | exact IntWalk.i64_in _ (by omega) | rfl)) ?_
             refine AL.ra ?_
             refine AL.nil ?_
             refine ⟨(k + 1, E + 1, c2, l[k], F', crashD (sputD byteN (sS c E h) d1 0 c E l[k]) kp), ?_, by first | omega | (simp only []; omega), ?_, ?_⟩
             ·exact n3.yes n4 h114
             ·simp only [anys, upds, offs, List.set_cons_zero, List.set_cons_succ]; repeat (first | exact Wk.nil | refine Wk.same ?_ | refine Wk.any ?_)
             ·simp only [anys, upds, offs, List.set_cons_zero, List.set_cons_succ]; repeat (first | exact Sk.nil _ | refine Sk.same _ ?_ | refine Sk.scr _ (by decide) ?_)
            ·skip
             refine AW.skip ?_
             change AW _ _ _ _ _
             refine AW.region ?_
             refine AL.rm ?_
             refine AL.r (rd_arith_add rfl rfl rfl (by first | exact IntWalk.i64_in _ (by omega) | rfl)) ?_
             refine AL.ra ?_
             refine AL.nil ?_
             refine ⟨(k + 1, E, c2, h, F', crashD (sputD byteN (sS c E h) d1 0 c E l[k]) kp), ?_, by first | omega | (simp only []; omega), ?_, ?_⟩
             ·exact n3.no n4 h114
             ·simp only [anys, upds, offs, List.set_cons_zero, List.set_cons_succ]; repeat (first | exact Wk.nil | refine Wk.same ?_ | refine Wk.any ?_)
             ·simp only [anys, upds, offs, List.set_cons_zero, List.set_cons_succ]; repeat (first | exact Sk.nil _ | refine Sk.same _ ?_ | refine Sk.scr _ (by decide) ?_)
      ·skip
       refine ⟨_, rfl, ⟨_, _, rfl, rfl, rfl⟩, AOpB.op (ARd.opB (rd_b2s rfl (by kernel_rfl) (src_s rfl)) ?_)⟩
       refine ADB.n ?_
       refine ADB.mv 10 rfl (calloZ (sbytes_v (gs 1 + 1) 1 byteN (sS c E h) d rfl (Nat.le_trans hJ.hl (by decide))) [1, 0] ?_)
       rintro y os' ⟨rfl, rfl⟩
       refine ADB.noZ ?_
       refine ADB.mv 11 rfl (AOpB.op (ARd.opB (rd_b2s rfl (by kernel_rfl) (src_s rfl)) ?_))
       refine ADB.n ?_
       refine ADB.r 14 rfl (rdP_sne rfl rfl rfl) ⟨_, _, rfl, rfl, rfl⟩ ?_
       refine ADB.r 15 rfl (rdP_pick_f rfl rfl rfl) rfl ?_
       refine ADB.done (by kernel_rfl) ?_
       change AW _ _ _ _ _
       refine AW.cd rfl (fun h63 => ?_) (fun h63 => ?_)
       ·skip
        refine AW.seq ?_
        first | exact (h56 rfl).elim | exact (h63 rfl).elim
       ·skip
        refine AW.skip ?_
        change AW _ _ _ _ _
        refine AW.join (ι := DiskD) [64, 65, 66, 67, 68, 69, 70, 71, 72, 73] (fun d1 => []) [] (fun d1 => [(0, ⟨1, .obj (DiskP d1)⟩)]) (fun d1 => Rest 100000 (10 * k) F d1) ?_ ?_
        ·skip
         refine AW.seq ?_
         refine AW.region ?_
         refine AL.rm ?_
         refine AL.rm ?_
         refine AL.r (rd_len_sl rfl el_81 rfl) ?_
         refine AL.r (rd_bin rfl rfl rfl (fun _ => rfl)) ?_
         refine AL.nil ?_
         change AW _ _ _ _ _
         refine AW.cd rfl (fun h67 => ?_) (fun h67 => ?_)
         ·skip
          refine AW.region ?_
          have hfl : k < fu.length := (by simp only [intsA_len] at h67; omega)
          refine AL.rm ?_
          refine AL.rm ?_
          refine AL.rm ?_
          refine AL.r (rd_iaddr_sl rfl el_81 rfl rfl rfl (get_mapA (by omega)) rfl) ?_
          refine AL.r (rd_load_ep rfl ag_3 rfl rfl) ?_
          refine AL.op rfl (calloZ (od_fuse d 1 fu[k]) [0] ?_)
          rintro y os' ⟨rfl, rfl⟩
          refine AL.noZ ?_
          refine AL.nil ?_
          refine ⟨fuseD d fu[k], hJ.rest.fuse _ (hfu _ (List.getElem_mem _)), (by simp only [anys, upds, offs, List.set_cons_zero, List.set_cons_succ]; repeat (first | exact Wk.nil | refine Wk.same ?_ | refine Wk.any ?_)), (by simp only [anys, upds, offs, List.set_cons_zero, List.set_cons_succ]; repeat (first | exact Sk.nil _ | refine Sk.same _ ?_ | refine Sk.scr _ (by decide) ?_))⟩
         ·skip
          refine AW.skip ?_
          refine ⟨d, hJ.rest, (by simp only [anys, upds, offs, List.set_cons_zero, List.set_cons_succ]; repeat (first | exact Wk.nil | refine Wk.same ?_ | refine Wk.any ?_)), (by simp only [anys, upds, offs, List.set_cons_zero, List.set_cons_succ]; repeat (first | exact Sk.nil _ | refine Sk.same _ ?_ | refine Sk.scr _ (by decide) ?_))⟩
        ·rintro d1 gs67 hJ67
         refine AW.norm (by simp only [anys, upds, offs, List.set_cons_zero, List.set_cons_succ]; rfl) (by (try simp only [anys, upds, offs, List.set_cons_zero, List.set_cons_succ]); (try rfl)) ?_
         (try dsimp only at hJ67)
         change AW _ _ _ _ _
         refine AW.seq ?_
         refine AW.region ?_
         have hR1 : Rest 100000 (10 * k) F d1 := hJ67
         have hll : l.length ≤ 12 := (by simp only [rowsA_len] at *; omega)
         have hlk : l[k].length ≤ 300 := (by simp only [byA_len] at *; omega)
         have hSw := hJ.sw hR1 hll
         refine AL.rm ?_
         refine AL.rm ?_
         refine AL.rm ?_
         refine AL.r (rd_iaddr_sl rfl el_56 rfl rfl rfl (get_mapA (by omega)) rfl) ?_
         refine AL.r (rd_load_ep rfl ag_29 rfl rfl) ?_
         refine AL.op rfl (calloZ (sput_c (gs 1 + 1) 1 byteN byte_tab (sS c E h) d1 hR1.gro.ok (by omega) hSw.pos l[k]) [1, 0] ?_)
         rintro y os' ⟨rfl, rfl⟩
         refine AL.noZ ?_
         refine AL.ra ?_
         refine AL.nil ?_
         change AW _ _ _ _ _
         refine AW.seq ?_
         refine AW.region ?_
         refine AL.ra ?_
         refine AL.nil ?_
         change AW _ _ _ _ _
         refine AW.join (ι := Int) [80, 81, 82, 83, 84, 85, 86, 87] (fun kp => [(16, .sc (.int .i64 kp))]) [] (fun kp => []) (fun kp => -9223372036854775808 ≤ kp ∧ kp < 9223372036854775808) ?_ ?_
         ·skip
          refine AW.seq ?_
          refine AW.region ?_
          refine AL.rm ?_
          refine AL.rm ?_
          refine AL.r (rd_len_sl rfl el_81 rfl) ?_
          refine AL.r (rd_bin rfl rfl rfl (fun _ => rfl)) ?_
          refine AL.nil ?_
          change AW _ _ _ _ _
          refine AW.cd rfl (fun h83 => ?_) (fun h83 => ?_)
          ·skip
           refine AW.region ?_
           have hkl2 : k < ke.length := (by simp only [intsA_len] at h83; omega)
           refine AL.rm ?_
           refine AL.rm ?_
           refine AL.r (rd_iaddr_sl rfl el_81 rfl rfl rfl (get_mapA (by omega)) rfl) ?_
           refine AL.r (rd_load_ep rfl ag_3 rfl rfl) ?_
           refine AL.ra ?_
           refine AL.nil ?_
           refine ⟨ke[k], hke _ (List.getElem_mem _), (by simp only [anys, upds, offs, List.set_cons_zero, List.set_cons_succ]; repeat (first | exact Wk.nil | refine Wk.same ?_ | refine Wk.any ?_)), (by simp only [anys, upds, offs, List.set_cons_zero, List.set_cons_succ]; repeat (first | exact Sk.nil _ | refine Sk.same _ ?_ | refine Sk.scr _ (by decide) ?_))⟩
          ·skip
           refine AW.skip ?_
           refine ⟨0, by omega, (by simp only [anys, upds, offs, List.set_cons_zero, List.set_cons_succ]; repeat (first | exact Wk.nil | refine Wk.same ?_ | refine Wk.any ?_)), (by simp only [anys, upds, offs, List.set_cons_zero, List.set_cons_succ]; repeat (first | exact Sk.nil _ | refine Sk.same _ ?_ | refine Sk.scr _ (by decide) ?_))⟩
         ·rintro kp gs83 hJ83
          refine AW.norm (by simp only [anys, upds, offs, List.set_cons_zero, List.set_cons_succ]; rfl) (by (try simp only [anys, upds, offs, List.set_cons_zero, List.set_cons_succ]); (try rfl)) ?_
          (try dsimp only at hJ83)
          change AW _ _ _ _ _
          refine AW.seq ?_
          refine AW.region ?_
          obtain ⟨n1, F', n2⟩ := hJ.next hR1 hll hkl hlk kp
          refine AL.rm ?_
          refine AL.rm ?_
          refine AL.op rfl (calloZ (ok_crash n1 (by omega) 1 kp hJ83) [0] ?_)
          rintro y os' ⟨rfl, rfl⟩
          refine AL.noZ ?_
          refine AL.nil ?_
          change AW _ _ _ _ _
          refine AW.seq ?_
          refine AW.region ?_
          obtain ⟨E2, c2, h2, n3, n4⟩ := SJ.either n2
          refine AL.rm ?_
          refine AL.r (rd_tab0 rfl ag_53 rfl rfl) ?_
          refine AL.op rfl (calloZ (sopen_v byteN byte_tab (crashD (sputD byteN (sS c E h) d1 0 c E l[k]) kp) n3.rest.gro.ok (by omega) 1 (gs 2) 0 (by omega) n3.rest.dark n3.opens rfl rfl) [0, 2] ?_)
          rintro y os' ⟨rfl, rfl⟩
          refine AL.noZ ?_
          refine AL.rm ?_
          refine AL.r (rd_extract rfl rfl rfl) ?_
          refine AL.r (rd_extract rfl rfl rfl) ?_
          refine AL.ra ?_
          refine AL.ra ?_
          refine AL.nil ?_
          change AW _ _ _ _ _
          refine AW.join (ι := Unit) [6, 97, 98, 99, 100, 101, 102, 103, 104, 105, 106, 107, 108, 109] (fun u1 => []) [] (fun u1 => []) (fun u1 => True) ?_ ?_
          ·skip
           refine AW.seq ?_
           refine AW.region ?_
           refine AL.rm ?_
           refine AL.r (rd_bin rfl rfl rfl (fun _ => rfl)) ?_
           refine AL.rm ?_
           refine AL.ro (rd_move rfl rfl) ?_
           refine AL.ro (rd_bin rfl rfl rfl (fun _ => rfl)) ?_
           refine AL.ro (rd_move rfl rfl) ?_
           refine AL.fk (d := 102) rfl (fun h102 => ?_) (fun h102 => ?_)
           ·skip
            refine AL.n ?_
            refine AL.ro (rd_move rfl rfl) ?_
            refine AL.on rfl rfl rfl (calloZ (sepoch_c (gs 2 + 1) 1 byteN (sS c2 E2 h2) (crashD (sputD byteN (sS c E h) d1 0 c E l[k]) kp)) [2, 0] ?_)
            rintro y os' ⟨rfl, rfl⟩
            refine AL.noZ ?_
            refine AL.ro (rd_move rfl rfl) ?_
            refine AL.ro (rd_arith_add rfl rfl rfl (by first | exact IntWalk.i64_in _ (by omega) | rfl)) ?_
            refine AL.ro (rd_bin rfl rfl rfl (fun _ => rfl)) ?_
            refine AL.ro (rd_pick_t rfl rfl rfl) ?_
            refine AL.r (rd_pick_f rfl rfl rfl) ?_
            refine AL.nil ?_
            change AW _ _ _ _ _
            refine AW.cd rfl (fun h109 => ?_) (fun h109 => ?_)
            ·skip
             refine AW.seq ?_
             exact (h109 (either_dead n4 h102)).elim
            ·skip
             refine AW.skip ?_
             refine ⟨(), trivial, (by simp only [anys, upds, offs, List.set_cons_zero, List.set_cons_succ]; repeat (first | exact Wk.nil | refine Wk.same ?_ | refine Wk.any ?_)), (by simp only [anys, upds, offs, List.set_cons_zero, List.set_cons_succ]; repeat (first | exact Sk.nil _ | refine Sk.same _ ?_ | refine Sk.scr _ (by decide) ?_))⟩
           ·skip
            refine AL.n ?_
            refine AL.rf ?_
            refine AL.rf ?_
            refine AL.rf ?_
            refine AL.rf ?_
            refine AL.rf ?_
            refine AL.ro (rd_pick_f rfl rfl rfl) ?_
            refine AL.r (rd_pick_f rfl rfl rfl) ?_
            refine AL.nil ?_
            change AW _ _ _ _ _
            refine AW.cond_f rfl ?_
            refine AW.skip ?_
            refine ⟨(), trivial, (by simp only [anys, upds, offs, List.set_cons_zero, List.set_cons_succ]; repeat (first | exact Wk.nil | refine Wk.same ?_ | refine Wk.any ?_)), (by simp only [anys, upds, offs, List.set_cons_zero, List.set_cons_succ]; repeat (first | exact Sk.nil _ | refine Sk.same _ ?_ | refine Sk.scr _ (by decide) ?_))⟩
          ·rintro u1 gs109 hJ109
           refine AW.norm (by simp only [anys, upds, offs, List.set_cons_zero, List.set_cons_succ]; rfl) (by (try simp only [anys, upds, offs, List.set_cons_zero, List.set_cons_succ]); (try rfl)) ?_
           (try dsimp only at hJ109)
           change AW _ _ _ _ _
           refine AW.seq ?_
           refine AW.region ?_
           refine AL.rm ?_
           refine AL.op rfl (calloZ (sepoch_c (gs 2 + 1) 1 byteN (sS c2 E2 h2) (crashD (sputD byteN (sS c E h) d1 0 c E l[k]) kp)) [2, 0] ?_)
           rintro y os' ⟨rfl, rfl⟩
           refine AL.noZ ?_
           refine AL.rm ?_
           refine AL.r (rd_arith_add rfl rfl rfl (by first | exact IntWalk.i64_in _ (by omega) | rfl)) ?_
           refine AL.r (rd_bin rfl rfl rfl (fun _ => rfl)) ?_
           refine AL.nil ?_
           change AW _ _ _ _ _
           refine AW.cd rfl (fun h114 => ?_) (fun h114 => ?_)
           ·skip
            refine AW.seq ?_
            refine AW.region ?_
            refine AL.rm ?_
            refine AL.r (rd_arith_add rfl rfl rfl (by first | exact IntWalk.i64_in _ (by omega) | rfl)) ?_
            refine AL.ra ?_
            refine AL.nil ?_
            change AW _ _ _ _ _
            refine AW.region ?_
            refine AL.rm ?_
            refine AL.rm ?_
            refine AL.r (rd_iaddr_sl rfl el_56 rfl rfl rfl (get_mapA (by omega)) rfl) ?_
            refine AL.r (rd_load_ep rfl ag_29 rfl rfl) ?_
            refine AL.ra ?_
            refine AL.nil ?_
            change AW _ _ _ _ _
            refine AW.region ?_
            refine AL.rm ?_
            refine AL.r (rd_arith_add rfl rfl rfl (by first | exact IntWalk.i64_in _ (by omega) | rfl)) ?_
            refine AL.ra ?_
            refine AL.nil ?_
            refine ⟨(k + 1, E + 1, c2, l[k], F', crashD (sputD byteN (sS c E h) d1 0 c E l[k]) kp), ?_, by first | omega | (simp only []; omega), ?_, ?_⟩
            ·exact n3.yes n4 h114
            ·simp only [anys, upds, offs, List.set_cons_zero, List.set_cons_succ]; repeat (first | exact Wk.nil | refine Wk.same ?_ | refine Wk.any ?_)
            ·simp only [anys, upds, offs, List.set_cons_zero, List.set_cons_succ]; repeat (first | exact Sk.nil _ | refine Sk.same _ ?_ | refine Sk.scr _ (by decide) ?_)
           ·skip
            refine AW.skip ?_
            change AW _ _ _ _ _
            refine AW.region ?_
            refine AL.rm ?_
            refine AL.r (rd_arith_add rfl rfl rfl (by first | exact IntWalk.i64_in _ (by omega) | rfl)) ?_
            refine AL.ra ?_
            refine AL.nil ?_
            refine ⟨(k + 1, E, c2, h, F', crashD (sputD byteN (sS c E h) d1 0 c E l[k]) kp), ?_, by first | omega | (simp only []; omega), ?_, ?_⟩
            ·exact n3.no n4 h114
            ·simp only [anys, upds, offs, List.set_cons_zero, List.set_cons_succ]; repeat (first | exact Wk.nil | refine Wk.same ?_ | refine Wk.any ?_)
            ·simp only [anys, upds, offs, List.set_cons_zero, List.set_cons_succ]; repeat (first | exact Sk.nil _ | refine Sk.same _ ?_ | refine Sk.scr _ (by decide) ?_)
   ·skip
    refine AW.exit ?_
    change AW _ _ _ _ _
    refine AW.seq ?_
    refine AW.region ?_
    refine AL.ra ?_
    refine AL.nil ?_
    change AW _ _ _ _ _
    refine AW.ret ?_
    change ResA _ _ _ _ _
    refine res1 rfl (ResV.tmp rfl) rfl ?_
    rfl
theorem walk_SlotsAgain (w : World) (v0 : Value) (rs0 : List (List UInt8)) (rp0 : RepS AnyB w v0 (.sl (rowsA rs0))) (v1 : Value) (is1 : List Int) (wi1 : ∀ x ∈ is1, (Lit.int .i64 x).wf = true) (rp1 : RepS AnyB w v1 (.sl (intsA is1))) (v2 : Value) (is2 : List Int) (wi2 : ∀ x ∈ is2, (Lit.int .i64 x).wf = true) (rp2 : RepS AnyB w v2 (.sl (intsA is2))) :
    Calls Try.prog 11 #[v0, v1, v2] w fun e w' => e = .returned (.bool true) ∧ Below w.heap.size w w' :=
  (again_c rs0 is1 is2 (fun x hx => by have := bounds_i64 (wi1 x hx); omega) (fun x hx => by have := bounds_i64 (wi2 x hx); omega)).law (vs := [v0, v1, v2]) rfl (rep_cons rp0 (rep_cons rp1 (rep_cons rp2 rep_nil)))
end Go.Proofs.Ytgjpeldgjpgbcaa
