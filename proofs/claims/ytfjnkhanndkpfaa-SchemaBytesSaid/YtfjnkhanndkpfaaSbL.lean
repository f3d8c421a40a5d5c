/- The law SchemaBytes, walked over abstract states. Conditions: none beyond the statement's. -/
import Derived.Test.YtfjnkhanndkpfaaSbW
import Derived.Test.YtfjnkhanndkpfaaSchR
namespace Go.Proofs.Ytfjnkhanndkpfaa
set_option linter.unusedSimpArgs false
set_option linter.unusedVariables false
set_option maxRecDepth 100000
set_option maxRecDepth 100000
open Go.RowKit

theorem rd_byr_from {P : Program} {o : Oper} {t : List AV} {st : List TK} {T e : Nat} {x lo : Operand} {l : List UInt8} {m : Nat} {ik : IntKind} {I : Int} (ho : o.op = .slice T x (some lo) none none) (hT : elT P T = some (e, 1)) (hx : evA t x = .sl (byA l)) (hy : evV t lo = some (.int ik I)) (hI : I = (m : Int)) (hm : m ≤ l.length) : ARd P o t st (.sl (byA (l.drop m))) := by
  have := rd_slice_sl (P := P) (st := st) (n := (byA l).length) ho hT hx byA_one ⟨_, _, hy, hI⟩ rfl (by rw [byA_len]; exact hm) (Nat.le_refl _)
  rwa [List.take_of_length_le (Nat.le_refl _), byA_drop] at this
theorem rdP_byr_from {P : Program} {o : Oper} {t : List AV} {st : List TK} {T e : Nat} {x lo : Operand} {l : List UInt8} {m : Nat} {ik : IntKind} {I : Int} (ho : o.op = .slice T x (some lo) none none) (hT : elT P T = some (e, 1)) (hx : evA t x = .sl (byA l)) (hy : evV t lo = some (.int ik I)) (hI : I = (m : Int)) (hm : m ≤ l.length) : ARdP P o t st (.sl (byA (l.drop m))) := by
  have := rdP_slice_sl (P := P) (st := st) (n := (byA l).length) ho hT hx byA_one ⟨_, _, hy, hI⟩ rfl (by rw [byA_len]; exact hm) (Nat.le_refl _)
  rwa [List.take_of_length_le (Nat.le_refl _), byA_drop] at this
theorem okFld.wf {x : FldD} (h : okFld x) : x.Wf := by
  obtain ⟨⟨h1, _⟩, h2, _, _, h3⟩ := h
  have a := bounds_i64 h1; have b := bounds_i64 h2; have c := bounds_i64 h3
  exact ⟨by unfold i64R; omega, by unfold i64R; omega, by unfold i64R; omega⟩
theorem heavyS_light {l : List FldD} (h : heavyS l = false) : l.length ≤ 40 ∧ ∀ x ∈ l, x.Light := ⟨(heavyS_f h).1, fun x hx => heavyF_light ((heavyS_f h).2 x hx)⟩
theorem gS_bad (b : List UInt8) {f : Int} (hf : okF f = false) : gS (newR b f) = [] := by
  have h0 : badP (newR b f) = true := by unfold badP newR; rw [hf]; rfl
  exact gS_no (okG_bad (j := 0) (bad_count h0 (by omega)) (Nat.zero_le _))
theorem endP_at {r : RdrD} {f : Int} {p : List UInt8} (h : r.At f p []) : endP r = 0 := by
  unfold endP
  rw [h.nb, left_at h]
  simp
section
variable {b : List UInt8} {f : Int} (hf : okF f = true)
include hf
theorem newR_g (b : List UInt8) : RdG b f (newR b f) 0 := ⟨rfl, rfl, rfl, by show (!okF f) = false; rw [hf]; rfl⟩
theorem simS_bad (h : (get14 b f 0).2.2 = false) : okG (newR b f) = false ∧ gS (newR b f) = [] := by
  obtain ⟨a, _⟩ := schema_sim hf (newR_g hf b)
  have h1 : ok14 b f 0 = false := by
    unfold get14 at h
    cases e : ok14 b f 0 with
    | false => rfl
    | true => rw [e, if_pos rfl] at h; cases h
  exact ⟨a.trans h1, gS_no (a.trans h1)⟩
theorem simS_good (h : (get14 b f 0).2.2 = true) : okG (newR b f) = true ∧ gS (newR b f) = (get14 b f 0).1 ∧ leftP (fldsP (sn (newR b f)) (s0 (newR b f))).2 = (b.length : Int) - (get14 b f 0).2.1 := by
  obtain ⟨a, c⟩ := schema_sim hf (newR_g hf b)
  have h1 : ok14 b f 0 = true := by
    unfold get14 at h
    cases e : ok14 b f 0 with
    | true => rfl
    | false => rw [e, if_neg (by decide)] at h; cases h
  obtain ⟨c1, c2⟩ := c h1
  exact ⟨a.trans h1, c1, rd_left hf c2⟩
theorem get14_hi (hl : b.length ≤ 549755813888) (h : (get14 b f 0).2.2 = true) : 0 ≤ (get14 b f 0).2.1 ∧ (get14 b f 0).2.1 ≤ (b.length : Int) := by
  obtain ⟨a, c⟩ := schema_sim hf (newR_g hf b)
  have h1 : ok14 b f 0 = true := by
    unfold get14 at h
    cases e : ok14 b f 0 with
    | true => rfl
    | false => rw [e, if_neg (by decide)] at h; cases h
  obtain ⟨c1, c2⟩ := c h1
  have h2 := (fldsP_ok (s0_ok (newR_ok hl f)).ok (sn (newR b f))).1.ok
  have h3 := h2.lo
  have h4 := h2.hi
  rw [c2.at_] at h3 h4
  rw [c2.b] at h4
  exact ⟨h3, h4⟩
end
section
variable (f : Int) (hf : i64R f) (l : List FldD) (hn : l.length ≤ 40) (hw : ∀ x ∈ l, x.Wf) (hl : ∀ x ∈ l, x.Light)
include hf hn hw hl
theorem sput_9 (h : okF f = true) : AC Try.prog 55 [.sl (byA [9]), .sc (.int .i64 f), .sl (l.map FldD.cs)] (fun r => r = .s (.sl (byA (9 :: putL f l)))) := sput_c f hf l hn hw hl [9] (by simp) h
theorem sput_90 (h : okF f = false) : AC Try.prog 55 [.sl (byA [9]), .sc (.int .i64 f), .sl (l.map FldD.cs)] (fun r => r = .s (.sl (byA [9]))) := sput_0 f hf l hn hw hl [9] (by simp) h
end
section
variable (l : List FldD) (f : Int) (b : List UInt8) (hw : ∀ x ∈ l, x.Wf) (hf : i64R f)
include hw hf
set_option maxHeartbeats 1000000 in
theorem sbytes_0 (h1 : ¬ f = 1) (h2 : ¬ f = 2) (hok : okF f = false) : AC Try.prog 11 [.sl (l.map FldD.cs), .sc (.int .i64 f), .sl (byA b)] (fun r => r = .s (AB true)) := by
  have hbb := byA_len b
  refine AC.of' 117 3 Try.func11 rfl ?_
  change AW _ _ _ _ [TK.mk 0 .off, TK.mk 0 .off, TK.mk 0 .off]
  refine AW.seq ?_
  refine AW.region ?_
  refine AL.ra ?_
  refine AL.nil ?_
  change AW _ _ _ _ _
  refine AW.seq ?_
  refine AW.seq ?_
  refine AW.region ?_
  refine AL.op rfl (AOpB.op (op_call (awake14) rfl (by kernel_rfl) rfl (none) ?_))
  rintro r rfl
  refine AL.no ?_
  refine AL.r (rd_un rfl rfl (fun _ => rfl)) ?_
  refine AL.nil ?_
  change AW _ _ _ _ _
  refine AW.cond_f rfl ?_
  refine AW.skip ?_
  change AW _ _ _ _ _
  refine AW.seq ?_
  refine AW.seq ?_
  refine AW.region ?_
  refine AL.rm ?_
  refine AL.op rfl (AOpB.op (op_call (rheavy14 l) rfl (by kernel_rfl) rfl (none) ?_))
  rintro r rfl
  refine AL.no ?_
  refine AL.rm ?_
  refine AL.fk (d := 19) rfl (fun h19 => ?_) (fun h19 => ?_)
  ·skip
   refine AL.n ?_
   refine AL.rf ?_
   refine AL.rf ?_
   refine AL.rf ?_
   refine AL.r (rd_pick_t rfl rfl rfl) ?_
   refine AL.nil ?_
   change AW _ _ _ _ _
   refine AW.cond_t rfl ?_
   refine AW.seq ?_
   refine AW.region ?_
   refine AL.ra ?_
   refine AL.nil ?_
   change AW _ _ _ _ _
   refine AW.ret ?_
   change ResA _ _ _ _ _
   refine res1 rfl (ResV.tmp rfl) rfl ?_
   rfl
  ·skip
   refine AL.n ?_
   refine AL.ro (rd_move rfl rfl) ?_
   refine AL.ro (rd_len_sl rfl el_83 rfl) ?_
   refine AL.ro (rd_bin rfl rfl rfl (fun _ => rfl)) ?_
   refine AL.r (rd_pick_f rfl rfl rfl) ?_
   refine AL.nil ?_
   change AW _ _ _ _ _
   refine AW.cd rfl (fun h23 => ?_) (fun h23 => ?_)
   ·skip
    refine AW.seq ?_
    refine AW.region ?_
    refine AL.ra ?_
    refine AL.nil ?_
    change AW _ _ _ _ _
    refine AW.ret ?_
    change ResA _ _ _ _ _
    refine res1 rfl (ResV.tmp rfl) rfl ?_
    rfl
   ·skip
    refine AW.skip ?_
    change AW _ _ _ _ _
    refine AW.seq ?_
    refine AW.region ?_
    obtain ⟨hn, hl⟩ := heavyS_light (l := l) (by assumption)
    refine AL.op rfl (AOpB.op (bs_set rfl ap_83 ze_5 rfl rfl ?_))
    refine AL.no ?_
    refine AL.rm ?_
    refine AL.rm ?_
    refine AL.op rfl (AOpB.op (op_call (sput_90 f hf l hn hw hl hok) rfl (by kernel_rfl) rfl (none) ?_))
    rintro r rfl
    refine AL.no ?_
    refine AL.ra ?_
    refine AL.nil ?_
    change AW _ _ _ _ _
    refine AW.seq ?_
    refine AW.seq ?_
    refine AW.region ?_
    refine AL.rm ?_
    refine AL.r (rd_bin rfl rfl rfl (fun _ => rfl)) ?_
    refine AL.rm ?_
    refine AL.fk (d := 30) rfl (fun h30 => ?_) (fun h30 => ?_)
    ·skip
     refine AL.n ?_
     refine AL.ro (rd_move rfl rfl) ?_
     refine AL.ro (rd_bin rfl rfl rfl (fun _ => rfl)) ?_
     refine AL.r (rd_pick_t rfl rfl rfl) ?_
     refine AL.nil ?_
     change AW _ _ _ _ _
     refine AW.cd rfl (fun h33 => ?_) (fun h33 => ?_)
     ·skip
      refine AW.seq ?_
      refine AW.region ?_
      refine AL.rm ?_
      refine AL.r (rd_b2s rfl (by kernel_rfl) (src_s rfl)) ?_
      refine AL.r (rd_seq rfl rfl rfl) ?_
      refine AL.rm ?_
      refine AL.fk (d := 37) rfl (fun h37 => ?_) (fun h37 => ?_)
      ·skip
       refine AL.n ?_
       refine AL.ro (rd_move rfl rfl) ?_
       refine AL.ro (rd_move rfl rfl) ?_
       refine AL.on rfl rfl rfl (calloR (rnew_c b (by omega) f 0) [0] ?_)
       rintro y os' ⟨rfl, rfl⟩
       refine AL.noR ?_
       refine AL.on rfl rfl rfl (calloR (sget_c 1 (newR b f) (newR_ok (by omega) f)) [0] ?_)
       rintro y os' ⟨rfl, r1, ho1, rfl, hb1, hr1⟩
       refine AL.noR ?_
       refine AL.ro (rd_len_sl rfl el_23 rfl) ?_
       refine AL.ro (rd_bin rfl rfl rfl (fun _ => rfl)) ?_
       refine AL.r (rd_pick_t rfl rfl rfl) ?_
       refine AL.ra ?_
       refine AL.nil ?_
       change AW _ _ _ _ _
       refine AW.ret ?_
       change ResA _ _ _ _ _
       refine res1 rfl (ResV.tmp rfl) rfl ?_
       rw [gS_bad b hok]; rfl
      ·skip
       exact absurd trivial h37
     ·skip
      omega
    ·skip
     omega
set_option maxHeartbeats 4000000 in
theorem sbytes_1 (h1 : f = 1) (hok : okF f = true) : AC Try.prog 11 [.sl (l.map FldD.cs), .sc (.int .i64 f), .sl (byA b)] (fun r => r = .s (AB true)) := by
  have hbb := byA_len b
  refine AC.of' 117 5 Try.func11 rfl ?_
  change AW _ _ _ _ [TK.mk 0 .off, TK.mk 0 .off, TK.mk 0 .off, TK.mk 0 .off, TK.mk 0 .off]
  refine AW.seq ?_
  refine AW.region ?_
  refine AL.ra ?_
  refine AL.nil ?_
  change AW _ _ _ _ _
  refine AW.seq ?_
  refine AW.seq ?_
  refine AW.region ?_
  refine AL.op rfl (AOpB.op (op_call (awake14) rfl (by kernel_rfl) rfl (none) ?_))
  rintro r rfl
  refine AL.no ?_
  refine AL.r (rd_un rfl rfl (fun _ => rfl)) ?_
  refine AL.nil ?_
  change AW _ _ _ _ _
  refine AW.cond_f rfl ?_
  refine AW.skip ?_
  change AW _ _ _ _ _
  refine AW.seq ?_
  refine AW.seq ?_
  refine AW.region ?_
  refine AL.rm ?_
  refine AL.op rfl (AOpB.op (op_call (rheavy14 l) rfl (by kernel_rfl) rfl (none) ?_))
  rintro r rfl
  refine AL.no ?_
  refine AL.rm ?_
  refine AL.fk (d := 19) rfl (fun h19 => ?_) (fun h19 => ?_)
  ·skip
   refine AL.n ?_
   refine AL.rf ?_
   refine AL.rf ?_
   refine AL.rf ?_
   refine AL.r (rd_pick_t rfl rfl rfl) ?_
   refine AL.nil ?_
   change AW _ _ _ _ _
   refine AW.cond_t rfl ?_
   refine AW.seq ?_
   refine AW.region ?_
   refine AL.ra ?_
   refine AL.nil ?_
   change AW _ _ _ _ _
   refine AW.ret ?_
   change ResA _ _ _ _ _
   refine res1 rfl (ResV.tmp rfl) rfl ?_
   rfl
  ·skip
   refine AL.n ?_
   refine AL.ro (rd_move rfl rfl) ?_
   refine AL.ro (rd_len_sl rfl el_83 rfl) ?_
   refine AL.ro (rd_bin rfl rfl rfl (fun _ => rfl)) ?_
   refine AL.r (rd_pick_f rfl rfl rfl) ?_
   refine AL.nil ?_
   change AW _ _ _ _ _
   refine AW.cd rfl (fun h23 => ?_) (fun h23 => ?_)
   ·skip
    refine AW.seq ?_
    refine AW.region ?_
    refine AL.ra ?_
    refine AL.nil ?_
    change AW _ _ _ _ _
    refine AW.ret ?_
    change ResA _ _ _ _ _
    refine res1 rfl (ResV.tmp rfl) rfl ?_
    rfl
   ·skip
    refine AW.skip ?_
    change AW _ _ _ _ _
    refine AW.seq ?_
    refine AW.region ?_
    obtain ⟨hn, hl⟩ := heavyS_light (l := l) (by assumption)
    have hsm := heavyS_small (l := l) (by assumption)
    have hpl : (putL f l).length ≤ 300000 := (by have := putL'_len (f := f) hl l.length; rw [putL'_n] at this; omega)
    have hat := schema_at hok hn hw hl
    refine AL.op rfl (AOpB.op (bs_set rfl ap_83 ze_5 rfl rfl ?_))
    refine AL.no ?_
    refine AL.rm ?_
    refine AL.rm ?_
    refine AL.op rfl (AOpB.op (op_call (sput_9 f hf l hn hw hl hok) rfl (by kernel_rfl) rfl (none) ?_))
    rintro r rfl
    refine AL.no ?_
    refine AL.ra ?_
    refine AL.nil ?_
    change AW _ _ _ _ _
    refine AW.seq ?_
    refine AW.seq ?_
    refine AW.region ?_
    refine AL.rm ?_
    refine AL.r (rd_bin rfl rfl rfl (fun _ => rfl)) ?_
    refine AL.rm ?_
    refine AL.fk (d := 30) rfl (fun h30 => ?_) (fun h30 => ?_)
    ·skip
     omega
    ·skip
     refine AL.n ?_
     refine AL.rf ?_
     refine AL.rf ?_
     refine AL.r (rd_pick_f rfl rfl rfl) ?_
     refine AL.nil ?_
     change AW _ _ _ _ _
     refine AW.cond_f rfl ?_
     refine AW.skip ?_
     change AW _ _ _ _ _
     refine AW.seq ?_
     refine AW.region ?_
     refine AL.rm ?_
     refine AL.r (rd_byr_from rfl el_83 rfl rfl (m := 1) rfl (by simp)) ?_
     refine AL.rm ?_
     refine AL.op rfl (calloR (rnew_c (putL f l) (by omega) f 0) [0] ?_)
     rintro y os' ⟨rfl, rfl⟩
     refine AL.noR ?_
     refine AL.ra ?_
     refine AL.nil ?_
     change AW _ _ _ _ _
     refine AW.seq ?_
     refine AW.region ?_
     refine AL.rm ?_
     refine AL.op rfl (calloR (sget_c 1 (newR (putL f l) f) (newR_ok (by omega) f)) [0] ?_)
     rintro y os' ⟨rfl, r1, ho1, rfl, hb1, hr1⟩
     refine AL.noR ?_
     have hend : rightS l = true → endP r1 = 0 := fun h => (by rw [hr1 (hat.1 h).1]; exact endP_at (hat.1 h).2.2)
     have hsame : rightS l = true → l = gS (newR (putL f l) f) := fun h => (hat.1 h).2.1.symm
     have hbad : rightS l = false → badP r1 = true := fun h => (by rw [hb1, hat.2 h]; rfl)
     refine AL.ra ?_
     refine AL.nil ?_
     change AW _ _ _ _ _
     refine AW.seq ?_
     refine AW.seq ?_
     refine AW.draw (by kernel_rfl) ?_
     refine AD.r 0 rfl (rd_move rfl rfl) rfl ?_
     refine AD.r 1 rfl (rd_byr_from rfl el_83 rfl rfl (m := 1) rfl (by simp)) rfl ?_
     refine AD.r 2 rfl (rd_b2s rfl (by kernel_rfl) (src_s rfl)) rfl ?_
     refine AD.r 3 rfl (rd_move rfl rfl) rfl ?_
     refine AD.r 4 rfl (rd_move rfl rfl) rfl ?_
     refine AD.move 5 rfl (by kernel_rfl) rfl (op_call (rput14_c f hf l hn hw hl hok) rfl (by kernel_rfl) rfl (none) ?_)
     rintro r rfl
     refine AD.n ?_
     refine AD.r 6 rfl (rd_b2s rfl (by kernel_rfl) (src_s rfl)) rfl ?_
     refine AD.r 7 rfl (rd_sne rfl rfl rfl) rfl ?_
     refine AD.done (by kernel_rfl) ?_
     change AW _ _ _ _ _
     refine AW.cd rfl (fun h58 => ?_) (fun h58 => ?_)
     ·skip
      exact (h58 rfl).elim
     ·skip
      refine AW.skip ?_
      change AW _ _ _ _ _
      refine AW.seq ?_
      refine AW.seq ?_
      refine AW.region ?_
      refine AL.rm ?_
      refine AL.op rfl (AOpB.op (op_call (rright14 l hsm) rfl (by kernel_rfl) rfl (none) ?_))
      rintro r rfl
      refine AL.no ?_
      refine AL.rm ?_
      refine AL.fk (d := 61) rfl (fun h61 => ?_) (fun h61 => ?_)
      ·skip
       refine AL.n ?_
       refine AL.ro (rd_move rfl rfl) ?_
       refine AL.ro (rd_move rfl rfl) ?_
       refine AL.on rfl rfl rfl (AOpB.op (op_call (rsame14s l (gS (newR (putL f l) f)) hsm) rfl (by kernel_rfl) rfl (none) ?_))
       rintro r rfl
       refine AL.no ?_
       refine AL.ro (rd_un rfl rfl (fun _ => rfl)) ?_
       refine AL.ro (rd_move rfl rfl) ?_
       refine AL.fk (d := 66) rfl (fun h66 => ?_) (fun h66 => ?_)
       ·skip
        exact (h66 (hsame (by assumption))).elim
       ·skip
        refine AL.n ?_
        refine AL.ro (rd_move rfl rfl) ?_
        refine AL.on rfl rfl rfl (calloR (rend_c 1 r1 ho1) [0] ?_)
        rintro y os' ⟨rfl, rfl⟩
        refine AL.noR ?_
        refine AL.ro (rd_bin rfl rfl rfl (fun _ => rfl)) ?_
        refine AL.ro (rd_pick_f rfl rfl rfl) ?_
        refine AL.r (rd_pick_t rfl rfl rfl) ?_
        refine AL.rm ?_
        refine AL.fk (d := 72) rfl (fun h72 => ?_) (fun h72 => ?_)
        ·skip
         exact absurd (hend (by assumption)) h72
        ·skip
         refine AL.n ?_
         refine AL.ro (rd_move rfl rfl) ?_
         refine AL.on rfl rfl rfl (AOpB.op (op_call (rright14 l hsm) rfl (by kernel_rfl) rfl (none) ?_))
         rintro r rfl
         refine AL.no ?_
         refine AL.ro (rd_un rfl rfl (fun _ => rfl)) ?_
         refine AL.ro (rd_move rfl rfl) ?_
         refine AL.fk (d := 76) rfl (fun h76 => ?_) (fun h76 => ?_)
         ·skip
          exact absurd (h61.symm.trans h76) (by decide)
         ·skip
          refine AL.n ?_
          refine AL.rf ?_
          refine AL.rf ?_
          refine AL.rf ?_
          refine AL.ro (rd_pick_f rfl rfl rfl) ?_
          refine AL.r (rd_pick_f rfl rfl rfl) ?_
          refine AL.nil ?_
          change AW _ _ _ _ _
          refine AW.cond_f rfl ?_
          refine AW.skip ?_
          change AW _ _ _ _ _
          refine AW.seq ?_
          refine AW.region ?_
          refine AL.rm ?_
          refine AL.rm ?_
          refine AL.op rfl (calloR (rnew_c b (by omega) f 0) [1] ?_)
          rintro y os' ⟨rfl, rfl⟩
          refine AL.noR ?_
          refine AL.ra ?_
          refine AL.nil ?_
          change AW _ _ _ _ _
          refine AW.seq ?_
          refine AW.region ?_
          refine AL.rm ?_
          refine AL.op rfl (calloR (sget_c 1 (newR b f) (newR_ok (by omega) f)) [1] ?_)
          rintro y os' ⟨rfl, r2, ho2, rfl, hb2, hr2⟩
          refine AL.noR ?_
          refine AL.ra ?_
          refine AL.nil ?_
          change AW _ _ _ _ _
          refine AW.seq ?_
          refine AW.region ?_
          refine AL.rm ?_
          refine AL.rm ?_
          refine AL.op rfl (AOpB.op (op_call (rget14_c b f 0 (by omega) (by omega)) rfl (by kernel_rfl) rfl (none) ?_))
          rintro r rfl
          refine AL.no ?_
          refine AL.rm ?_
          refine AL.r (rd_extract rfl rfl rfl) ?_
          refine AL.r (rd_extract rfl rfl rfl) ?_
          refine AL.r (rd_extract rfl rfl rfl) ?_
          refine AL.ra ?_
          refine AL.ra ?_
          refine AL.ra ?_
          refine AL.nil ?_
          change AW _ _ _ _ _
          refine AW.seq ?_
          refine AW.seq ?_
          refine AW.region ?_
          refine AL.rm ?_
          refine AL.r (rd_un rfl rfl (fun _ => rfl)) ?_
          refine AL.nil ?_
          change AW _ _ _ _ _
          refine AW.cd rfl (fun h95 => ?_) (fun h95 => ?_)
          ·skip
           refine AW.seq ?_
           refine AW.region ?_
           obtain ⟨e1, e2⟩ := simS_bad hok (b := b) (by assumption)
           refine AL.rm ?_
           refine AL.op rfl (calloR (rbad_c 1 r2) [1] ?_)
           rintro y os' ⟨rfl, rfl⟩
           refine AL.noR ?_
           refine AL.rm ?_
           refine AL.fk (d := 98) rfl (fun h98 => ?_) (fun h98 => ?_)
           ·skip
            refine AL.n ?_
            refine AL.ro (rd_move rfl rfl) ?_
            refine AL.ro (rd_len_sl rfl el_23 rfl) ?_
            refine AL.ro (rd_bin rfl rfl rfl (fun _ => rfl)) ?_
            refine AL.r (rd_pick_t rfl rfl rfl) ?_
            refine AL.ra ?_
            refine AL.nil ?_
            change AW _ _ _ _ _
            refine AW.ret ?_
            change ResA _ _ _ _ _
            refine res1 rfl (ResV.tmp rfl) rfl ?_
            rw [e2]; rfl
           ·skip
            (rw [e1] at hb2; exact absurd (hb2.symm.trans h98) (by decide))
          ·skip
           refine AW.skip ?_
           change AW _ _ _ _ _
           refine AW.seq ?_
           refine AW.region ?_
           obtain ⟨e1, e2, e3⟩ := simS_good hok (b := b) (by assumption)
           have e4 := get14_hi hok (b := b) (by omega) (by assumption)
           rw [← hr2 e1] at e3
           refine AL.rm ?_
           refine AL.op rfl (calloR (rbad_c 1 r2) [1] ?_)
           rintro y os' ⟨rfl, rfl⟩
           refine AL.noR ?_
           refine AL.r (rd_un rfl rfl (fun _ => rfl)) ?_
           refine AL.rm ?_
           refine AL.fk (d := 106) rfl (fun h106 => ?_) (fun h106 => ?_)
           ·skip
            refine AL.n ?_
            refine AL.ro (rd_move rfl rfl) ?_
            refine AL.on rfl rfl rfl (calloR (rleft_c 1 r2 ho2) [1] ?_)
            rintro y os' ⟨rfl, rfl⟩
            refine AL.noR ?_
            refine AL.ro (rd_move rfl rfl) ?_
            refine AL.ro (rd_len_sl rfl el_83 rfl) ?_
            refine AL.ro (rd_move rfl rfl) ?_
            refine AL.ro (rd_arith_sub rfl rfl rfl (IntWalk.i64_in _ (by omega))) ?_
            refine AL.ro (rd_bin rfl rfl rfl (fun _ => rfl)) ?_
            refine AL.r (rd_pick_t rfl rfl rfl) ?_
            refine AL.rm ?_
            refine AL.fk (d := 115) rfl (fun h115 => ?_) (fun h115 => ?_)
            ·skip
             refine AL.n ?_
             refine AL.ro (rd_move rfl rfl) ?_
             refine AL.ro (rd_move rfl rfl) ?_
             refine AL.on rfl rfl rfl (AOpB.op (op_call (rsame14s (gS (newR b f)) (get14 b f 0).1 (by rw [e2]; exact get14_smallS b f 0)) rfl (by kernel_rfl) rfl (none) ?_))
             rintro r rfl
             refine AL.no ?_
             refine AL.r (rd_pick_t rfl rfl rfl) ?_
             refine AL.ra ?_
             refine AL.nil ?_
             change AW _ _ _ _ _
             refine AW.ret ?_
             change ResA _ _ _ _ _
             refine res1 rfl (ResV.tmp rfl) rfl ?_
             rw [decide_eq_true e2]
            ·skip
             exact absurd e3 h115
           ·skip
            (rw [e1] at hb2; exact absurd (hb2.symm.trans h106) (by decide))
      ·skip
       refine AL.n ?_
       refine AL.rf ?_
       refine AL.rf ?_
       refine AL.rf ?_
       refine AL.rf ?_
       refine AL.rf ?_
       refine AL.ru ?_
       refine AL.ru ?_
       refine AL.ru ?_
       refine AL.rf ?_
       refine AL.r (rd_pick_f rfl rfl rfl) ?_
       refine AL.rm ?_
       refine AL.ro (rd_move rfl rfl) ?_
       refine AL.on rfl rfl rfl (AOpB.op (op_call (rright14 l hsm) rfl (by kernel_rfl) rfl (none) ?_))
       rintro r rfl
       refine AL.no ?_
       refine AL.ro (rd_un rfl rfl (fun _ => rfl)) ?_
       refine AL.ro (rd_move rfl rfl) ?_
       refine AL.fk (d := 76) rfl (fun h76 => ?_) (fun h76 => ?_)
       ·skip
        refine AL.n ?_
        refine AL.ro (rd_move rfl rfl) ?_
        refine AL.on rfl rfl rfl (calloR (rbad_c 1 r1) [0] ?_)
        rintro y os' ⟨rfl, rfl⟩
        refine AL.noR ?_
        refine AL.ro (rd_un rfl rfl (fun _ => rfl)) ?_
        refine AL.ro (rd_pick_t rfl rfl rfl) ?_
        refine AL.r (rd_pick_f rfl rfl rfl) ?_
        refine AL.nil ?_
        change AW _ _ _ _ _
        refine AW.cd rfl (fun h81 => ?_) (fun h81 => ?_)
        ·skip
         exact absurd ((hbad (by assumption)).symm.trans h81) (by decide)
        ·skip
         refine AW.skip ?_
         change AW _ _ _ _ _
         refine AW.seq ?_
         refine AW.region ?_
         refine AL.rm ?_
         refine AL.rm ?_
         refine AL.op rfl (calloR (rnew_c b (by omega) f 0) [1] ?_)
         rintro y os' ⟨rfl, rfl⟩
         refine AL.noR ?_
         refine AL.ra ?_
         refine AL.nil ?_
         change AW _ _ _ _ _
         refine AW.seq ?_
         refine AW.region ?_
         refine AL.rm ?_
         refine AL.op rfl (calloR (sget_c 1 (newR b f) (newR_ok (by omega) f)) [1] ?_)
         rintro y os' ⟨rfl, r2, ho2, rfl, hb2, hr2⟩
         refine AL.noR ?_
         refine AL.ra ?_
         refine AL.nil ?_
         change AW _ _ _ _ _
         refine AW.seq ?_
         refine AW.region ?_
         refine AL.rm ?_
         refine AL.rm ?_
         refine AL.op rfl (AOpB.op (op_call (rget14_c b f 0 (by omega) (by omega)) rfl (by kernel_rfl) rfl (none) ?_))
         rintro r rfl
         refine AL.no ?_
         refine AL.rm ?_
         refine AL.r (rd_extract rfl rfl rfl) ?_
         refine AL.r (rd_extract rfl rfl rfl) ?_
         refine AL.r (rd_extract rfl rfl rfl) ?_
         refine AL.ra ?_
         refine AL.ra ?_
         refine AL.ra ?_
         refine AL.nil ?_
         change AW _ _ _ _ _
         refine AW.seq ?_
         refine AW.seq ?_
         refine AW.region ?_
         refine AL.rm ?_
         refine AL.r (rd_un rfl rfl (fun _ => rfl)) ?_
         refine AL.nil ?_
         change AW _ _ _ _ _
         refine AW.cd rfl (fun h95 => ?_) (fun h95 => ?_)
         ·skip
          refine AW.seq ?_
          refine AW.region ?_
          obtain ⟨e1, e2⟩ := simS_bad hok (b := b) (by assumption)
          refine AL.rm ?_
          refine AL.op rfl (calloR (rbad_c 1 r2) [1] ?_)
          rintro y os' ⟨rfl, rfl⟩
          refine AL.noR ?_
          refine AL.rm ?_
          refine AL.fk (d := 98) rfl (fun h98 => ?_) (fun h98 => ?_)
          ·skip
           refine AL.n ?_
           refine AL.ro (rd_move rfl rfl) ?_
           refine AL.ro (rd_len_sl rfl el_23 rfl) ?_
           refine AL.ro (rd_bin rfl rfl rfl (fun _ => rfl)) ?_
           refine AL.r (rd_pick_t rfl rfl rfl) ?_
           refine AL.ra ?_
           refine AL.nil ?_
           change AW _ _ _ _ _
           refine AW.ret ?_
           change ResA _ _ _ _ _
           refine res1 rfl (ResV.tmp rfl) rfl ?_
           rw [e2]; rfl
          ·skip
           (rw [e1] at hb2; exact absurd (hb2.symm.trans h98) (by decide))
         ·skip
          refine AW.skip ?_
          change AW _ _ _ _ _
          refine AW.seq ?_
          refine AW.region ?_
          obtain ⟨e1, e2, e3⟩ := simS_good hok (b := b) (by assumption)
          have e4 := get14_hi hok (b := b) (by omega) (by assumption)
          rw [← hr2 e1] at e3
          refine AL.rm ?_
          refine AL.op rfl (calloR (rbad_c 1 r2) [1] ?_)
          rintro y os' ⟨rfl, rfl⟩
          refine AL.noR ?_
          refine AL.r (rd_un rfl rfl (fun _ => rfl)) ?_
          refine AL.rm ?_
          refine AL.fk (d := 106) rfl (fun h106 => ?_) (fun h106 => ?_)
          ·skip
           refine AL.n ?_
           refine AL.ro (rd_move rfl rfl) ?_
           refine AL.on rfl rfl rfl (calloR (rleft_c 1 r2 ho2) [1] ?_)
           rintro y os' ⟨rfl, rfl⟩
           refine AL.noR ?_
           refine AL.ro (rd_move rfl rfl) ?_
           refine AL.ro (rd_len_sl rfl el_83 rfl) ?_
           refine AL.ro (rd_move rfl rfl) ?_
           refine AL.ro (rd_arith_sub rfl rfl rfl (IntWalk.i64_in _ (by omega))) ?_
           refine AL.ro (rd_bin rfl rfl rfl (fun _ => rfl)) ?_
           refine AL.r (rd_pick_t rfl rfl rfl) ?_
           refine AL.rm ?_
           refine AL.fk (d := 115) rfl (fun h115 => ?_) (fun h115 => ?_)
           ·skip
            refine AL.n ?_
            refine AL.ro (rd_move rfl rfl) ?_
            refine AL.ro (rd_move rfl rfl) ?_
            refine AL.on rfl rfl rfl (AOpB.op (op_call (rsame14s (gS (newR b f)) (get14 b f 0).1 (by rw [e2]; exact get14_smallS b f 0)) rfl (by kernel_rfl) rfl (none) ?_))
            rintro r rfl
            refine AL.no ?_
            refine AL.r (rd_pick_t rfl rfl rfl) ?_
            refine AL.ra ?_
            refine AL.nil ?_
            change AW _ _ _ _ _
            refine AW.ret ?_
            change ResA _ _ _ _ _
            refine res1 rfl (ResV.tmp rfl) rfl ?_
            rw [decide_eq_true e2]
           ·skip
            exact absurd e3 h115
          ·skip
           (rw [e1] at hb2; exact absurd (hb2.symm.trans h106) (by decide))
       ·skip
        exact absurd (h61.symm.trans h76) (by decide)
set_option maxHeartbeats 4000000 in
theorem sbytes_2 (h1 : f = 2) (hok : okF f = true) : AC Try.prog 11 [.sl (l.map FldD.cs), .sc (.int .i64 f), .sl (byA b)] (fun r => r = .s (AB true)) := by
  have hbb := byA_len b
  refine AC.of' 117 5 Try.func11 rfl ?_
  change AW _ _ _ _ [TK.mk 0 .off, TK.mk 0 .off, TK.mk 0 .off, TK.mk 0 .off, TK.mk 0 .off]
  refine AW.seq ?_
  refine AW.region ?_
  refine AL.ra ?_
  refine AL.nil ?_
  change AW _ _ _ _ _
  refine AW.seq ?_
  refine AW.seq ?_
  refine AW.region ?_
  refine AL.op rfl (AOpB.op (op_call (awake14) rfl (by kernel_rfl) rfl (none) ?_))
  rintro r rfl
  refine AL.no ?_
  refine AL.r (rd_un rfl rfl (fun _ => rfl)) ?_
  refine AL.nil ?_
  change AW _ _ _ _ _
  refine AW.cond_f rfl ?_
  refine AW.skip ?_
  change AW _ _ _ _ _
  refine AW.seq ?_
  refine AW.seq ?_
  refine AW.region ?_
  refine AL.rm ?_
  refine AL.op rfl (AOpB.op (op_call (rheavy14 l) rfl (by kernel_rfl) rfl (none) ?_))
  rintro r rfl
  refine AL.no ?_
  refine AL.rm ?_
  refine AL.fk (d := 19) rfl (fun h19 => ?_) (fun h19 => ?_)
  ·skip
   refine AL.n ?_
   refine AL.rf ?_
   refine AL.rf ?_
   refine AL.rf ?_
   refine AL.r (rd_pick_t rfl rfl rfl) ?_
   refine AL.nil ?_
   change AW _ _ _ _ _
   refine AW.cond_t rfl ?_
   refine AW.seq ?_
   refine AW.region ?_
   refine AL.ra ?_
   refine AL.nil ?_
   change AW _ _ _ _ _
   refine AW.ret ?_
   change ResA _ _ _ _ _
   refine res1 rfl (ResV.tmp rfl) rfl ?_
   rfl
  ·skip
   refine AL.n ?_
   refine AL.ro (rd_move rfl rfl) ?_
   refine AL.ro (rd_len_sl rfl el_83 rfl) ?_
   refine AL.ro (rd_bin rfl rfl rfl (fun _ => rfl)) ?_
   refine AL.r (rd_pick_f rfl rfl rfl) ?_
   refine AL.nil ?_
   change AW _ _ _ _ _
   refine AW.cd rfl (fun h23 => ?_) (fun h23 => ?_)
   ·skip
    refine AW.seq ?_
    refine AW.region ?_
    refine AL.ra ?_
    refine AL.nil ?_
    change AW _ _ _ _ _
    refine AW.ret ?_
    change ResA _ _ _ _ _
    refine res1 rfl (ResV.tmp rfl) rfl ?_
    rfl
   ·skip
    refine AW.skip ?_
    change AW _ _ _ _ _
    refine AW.seq ?_
    refine AW.region ?_
    obtain ⟨hn, hl⟩ := heavyS_light (l := l) (by assumption)
    have hsm := heavyS_small (l := l) (by assumption)
    have hpl : (putL f l).length ≤ 300000 := (by have := putL'_len (f := f) hl l.length; rw [putL'_n] at this; omega)
    have hat := schema_at hok hn hw hl
    refine AL.op rfl (AOpB.op (bs_set rfl ap_83 ze_5 rfl rfl ?_))
    refine AL.no ?_
    refine AL.rm ?_
    refine AL.rm ?_
    refine AL.op rfl (AOpB.op (op_call (sput_9 f hf l hn hw hl hok) rfl (by kernel_rfl) rfl (none) ?_))
    rintro r rfl
    refine AL.no ?_
    refine AL.ra ?_
    refine AL.nil ?_
    change AW _ _ _ _ _
    refine AW.seq ?_
    refine AW.seq ?_
    refine AW.region ?_
    refine AL.rm ?_
    refine AL.r (rd_bin rfl rfl rfl (fun _ => rfl)) ?_
    refine AL.rm ?_
    refine AL.fk (d := 30) rfl (fun h30 => ?_) (fun h30 => ?_)
    ·skip
     refine AL.n ?_
     refine AL.ro (rd_move rfl rfl) ?_
     refine AL.ro (rd_bin rfl rfl rfl (fun _ => rfl)) ?_
     refine AL.r (rd_pick_t rfl rfl rfl) ?_
     refine AL.nil ?_
     change AW _ _ _ _ _
     refine AW.cd rfl (fun h33 => ?_) (fun h33 => ?_)
     ·skip
      omega
     ·skip
      refine AW.skip ?_
      change AW _ _ _ _ _
      refine AW.seq ?_
      refine AW.region ?_
      refine AL.rm ?_
      refine AL.r (rd_byr_from rfl el_83 rfl rfl (m := 1) rfl (by simp)) ?_
      refine AL.rm ?_
      refine AL.op rfl (calloR (rnew_c (putL f l) (by omega) f 0) [0] ?_)
      rintro y os' ⟨rfl, rfl⟩
      refine AL.noR ?_
      refine AL.ra ?_
      refine AL.nil ?_
      change AW _ _ _ _ _
      refine AW.seq ?_
      refine AW.region ?_
      refine AL.rm ?_
      refine AL.op rfl (calloR (sget_c 1 (newR (putL f l) f) (newR_ok (by omega) f)) [0] ?_)
      rintro y os' ⟨rfl, r1, ho1, rfl, hb1, hr1⟩
      refine AL.noR ?_
      have hend : rightS l = true → endP r1 = 0 := fun h => (by rw [hr1 (hat.1 h).1]; exact endP_at (hat.1 h).2.2)
      have hsame : rightS l = true → l = gS (newR (putL f l) f) := fun h => (hat.1 h).2.1.symm
      have hbad : rightS l = false → badP r1 = true := fun h => (by rw [hb1, hat.2 h]; rfl)
      refine AL.ra ?_
      refine AL.nil ?_
      change AW _ _ _ _ _
      refine AW.seq ?_
      refine AW.seq ?_
      refine AW.draw (by kernel_rfl) ?_
      refine AD.r 0 rfl (rd_move rfl rfl) rfl ?_
      refine AD.r 1 rfl (rd_byr_from rfl el_83 rfl rfl (m := 1) rfl (by simp)) rfl ?_
      refine AD.r 2 rfl (rd_b2s rfl (by kernel_rfl) (src_s rfl)) rfl ?_
      refine AD.r 3 rfl (rd_move rfl rfl) rfl ?_
      refine AD.r 4 rfl (rd_move rfl rfl) rfl ?_
      refine AD.move 5 rfl (by kernel_rfl) rfl (op_call (rput14_c f hf l hn hw hl hok) rfl (by kernel_rfl) rfl (none) ?_)
      rintro r rfl
      refine AD.n ?_
      refine AD.r 6 rfl (rd_b2s rfl (by kernel_rfl) (src_s rfl)) rfl ?_
      refine AD.r 7 rfl (rd_sne rfl rfl rfl) rfl ?_
      refine AD.done (by kernel_rfl) ?_
      change AW _ _ _ _ _
      refine AW.cd rfl (fun h58 => ?_) (fun h58 => ?_)
      ·skip
       exact (h58 rfl).elim
      ·skip
       refine AW.skip ?_
       change AW _ _ _ _ _
       refine AW.seq ?_
       refine AW.seq ?_
       refine AW.region ?_
       refine AL.rm ?_
       refine AL.op rfl (AOpB.op (op_call (rright14 l hsm) rfl (by kernel_rfl) rfl (none) ?_))
       rintro r rfl
       refine AL.no ?_
       refine AL.rm ?_
       refine AL.fk (d := 61) rfl (fun h61 => ?_) (fun h61 => ?_)
       ·skip
        refine AL.n ?_
        refine AL.ro (rd_move rfl rfl) ?_
        refine AL.ro (rd_move rfl rfl) ?_
        refine AL.on rfl rfl rfl (AOpB.op (op_call (rsame14s l (gS (newR (putL f l) f)) hsm) rfl (by kernel_rfl) rfl (none) ?_))
        rintro r rfl
        refine AL.no ?_
        refine AL.ro (rd_un rfl rfl (fun _ => rfl)) ?_
        refine AL.ro (rd_move rfl rfl) ?_
        refine AL.fk (d := 66) rfl (fun h66 => ?_) (fun h66 => ?_)
        ·skip
         exact (h66 (hsame (by assumption))).elim
        ·skip
         refine AL.n ?_
         refine AL.ro (rd_move rfl rfl) ?_
         refine AL.on rfl rfl rfl (calloR (rend_c 1 r1 ho1) [0] ?_)
         rintro y os' ⟨rfl, rfl⟩
         refine AL.noR ?_
         refine AL.ro (rd_bin rfl rfl rfl (fun _ => rfl)) ?_
         refine AL.ro (rd_pick_f rfl rfl rfl) ?_
         refine AL.r (rd_pick_t rfl rfl rfl) ?_
         refine AL.rm ?_
         refine AL.fk (d := 72) rfl (fun h72 => ?_) (fun h72 => ?_)
         ·skip
          exact absurd (hend (by assumption)) h72
         ·skip
          refine AL.n ?_
          refine AL.ro (rd_move rfl rfl) ?_
          refine AL.on rfl rfl rfl (AOpB.op (op_call (rright14 l hsm) rfl (by kernel_rfl) rfl (none) ?_))
          rintro r rfl
          refine AL.no ?_
          refine AL.ro (rd_un rfl rfl (fun _ => rfl)) ?_
          refine AL.ro (rd_move rfl rfl) ?_
          refine AL.fk (d := 76) rfl (fun h76 => ?_) (fun h76 => ?_)
          ·skip
           exact absurd (h61.symm.trans h76) (by decide)
          ·skip
           refine AL.n ?_
           refine AL.rf ?_
           refine AL.rf ?_
           refine AL.rf ?_
           refine AL.ro (rd_pick_f rfl rfl rfl) ?_
           refine AL.r (rd_pick_f rfl rfl rfl) ?_
           refine AL.nil ?_
           change AW _ _ _ _ _
           refine AW.cond_f rfl ?_
           refine AW.skip ?_
           change AW _ _ _ _ _
           refine AW.seq ?_
           refine AW.region ?_
           refine AL.rm ?_
           refine AL.rm ?_
           refine AL.op rfl (calloR (rnew_c b (by omega) f 0) [1] ?_)
           rintro y os' ⟨rfl, rfl⟩
           refine AL.noR ?_
           refine AL.ra ?_
           refine AL.nil ?_
           change AW _ _ _ _ _
           refine AW.seq ?_
           refine AW.region ?_
           refine AL.rm ?_
           refine AL.op rfl (calloR (sget_c 1 (newR b f) (newR_ok (by omega) f)) [1] ?_)
           rintro y os' ⟨rfl, r2, ho2, rfl, hb2, hr2⟩
           refine AL.noR ?_
           refine AL.ra ?_
           refine AL.nil ?_
           change AW _ _ _ _ _
           refine AW.seq ?_
           refine AW.region ?_
           refine AL.rm ?_
           refine AL.rm ?_
           refine AL.op rfl (AOpB.op (op_call (rget14_c b f 0 (by omega) (by omega)) rfl (by kernel_rfl) rfl (none) ?_))
           rintro r rfl
           refine AL.no ?_
           refine AL.rm ?_
           refine AL.r (rd_extract rfl rfl rfl) ?_
           refine AL.r (rd_extract rfl rfl rfl) ?_
           refine AL.r (rd_extract rfl rfl rfl) ?_
           refine AL.ra ?_
           refine AL.ra ?_
           refine AL.ra ?_
           refine AL.nil ?_
           change AW _ _ _ _ _
           refine AW.seq ?_
           refine AW.seq ?_
           refine AW.region ?_
           refine AL.rm ?_
           refine AL.r (rd_un rfl rfl (fun _ => rfl)) ?_
           refine AL.nil ?_
           change AW _ _ _ _ _
           refine AW.cd rfl (fun h95 => ?_) (fun h95 => ?_)
           ·skip
            refine AW.seq ?_
            refine AW.region ?_
            obtain ⟨e1, e2⟩ := simS_bad hok (b := b) (by assumption)
            refine AL.rm ?_
            refine AL.op rfl (calloR (rbad_c 1 r2) [1] ?_)
            rintro y os' ⟨rfl, rfl⟩
            refine AL.noR ?_
            refine AL.rm ?_
            refine AL.fk (d := 98) rfl (fun h98 => ?_) (fun h98 => ?_)
            ·skip
             refine AL.n ?_
             refine AL.ro (rd_move rfl rfl) ?_
             refine AL.ro (rd_len_sl rfl el_23 rfl) ?_
             refine AL.ro (rd_bin rfl rfl rfl (fun _ => rfl)) ?_
             refine AL.r (rd_pick_t rfl rfl rfl) ?_
             refine AL.ra ?_
             refine AL.nil ?_
             change AW _ _ _ _ _
             refine AW.ret ?_
             change ResA _ _ _ _ _
             refine res1 rfl (ResV.tmp rfl) rfl ?_
             rw [e2]; rfl
            ·skip
             (rw [e1] at hb2; exact absurd (hb2.symm.trans h98) (by decide))
           ·skip
            refine AW.skip ?_
            change AW _ _ _ _ _
            refine AW.seq ?_
            refine AW.region ?_
            obtain ⟨e1, e2, e3⟩ := simS_good hok (b := b) (by assumption)
            have e4 := get14_hi hok (b := b) (by omega) (by assumption)
            rw [← hr2 e1] at e3
            refine AL.rm ?_
            refine AL.op rfl (calloR (rbad_c 1 r2) [1] ?_)
            rintro y os' ⟨rfl, rfl⟩
            refine AL.noR ?_
            refine AL.r (rd_un rfl rfl (fun _ => rfl)) ?_
            refine AL.rm ?_
            refine AL.fk (d := 106) rfl (fun h106 => ?_) (fun h106 => ?_)
            ·skip
             refine AL.n ?_
             refine AL.ro (rd_move rfl rfl) ?_
             refine AL.on rfl rfl rfl (calloR (rleft_c 1 r2 ho2) [1] ?_)
             rintro y os' ⟨rfl, rfl⟩
             refine AL.noR ?_
             refine AL.ro (rd_move rfl rfl) ?_
             refine AL.ro (rd_len_sl rfl el_83 rfl) ?_
             refine AL.ro (rd_move rfl rfl) ?_
             refine AL.ro (rd_arith_sub rfl rfl rfl (IntWalk.i64_in _ (by omega))) ?_
             refine AL.ro (rd_bin rfl rfl rfl (fun _ => rfl)) ?_
             refine AL.r (rd_pick_t rfl rfl rfl) ?_
             refine AL.rm ?_
             refine AL.fk (d := 115) rfl (fun h115 => ?_) (fun h115 => ?_)
             ·skip
              refine AL.n ?_
              refine AL.ro (rd_move rfl rfl) ?_
              refine AL.ro (rd_move rfl rfl) ?_
              refine AL.on rfl rfl rfl (AOpB.op (op_call (rsame14s (gS (newR b f)) (get14 b f 0).1 (by rw [e2]; exact get14_smallS b f 0)) rfl (by kernel_rfl) rfl (none) ?_))
              rintro r rfl
              refine AL.no ?_
              refine AL.r (rd_pick_t rfl rfl rfl) ?_
              refine AL.ra ?_
              refine AL.nil ?_
              change AW _ _ _ _ _
              refine AW.ret ?_
              change ResA _ _ _ _ _
              refine res1 rfl (ResV.tmp rfl) rfl ?_
              rw [decide_eq_true e2]
             ·skip
              exact absurd e3 h115
            ·skip
             (rw [e1] at hb2; exact absurd (hb2.symm.trans h106) (by decide))
       ·skip
        refine AL.n ?_
        refine AL.rf ?_
        refine AL.rf ?_
        refine AL.rf ?_
        refine AL.rf ?_
        refine AL.rf ?_
        refine AL.ru ?_
        refine AL.ru ?_
        refine AL.ru ?_
        refine AL.rf ?_
        refine AL.r (rd_pick_f rfl rfl rfl) ?_
        refine AL.rm ?_
        refine AL.ro (rd_move rfl rfl) ?_
        refine AL.on rfl rfl rfl (AOpB.op (op_call (rright14 l hsm) rfl (by kernel_rfl) rfl (none) ?_))
        rintro r rfl
        refine AL.no ?_
        refine AL.ro (rd_un rfl rfl (fun _ => rfl)) ?_
        refine AL.ro (rd_move rfl rfl) ?_
        refine AL.fk (d := 76) rfl (fun h76 => ?_) (fun h76 => ?_)
        ·skip
         refine AL.n ?_
         refine AL.ro (rd_move rfl rfl) ?_
         refine AL.on rfl rfl rfl (calloR (rbad_c 1 r1) [0] ?_)
         rintro y os' ⟨rfl, rfl⟩
         refine AL.noR ?_
         refine AL.ro (rd_un rfl rfl (fun _ => rfl)) ?_
         refine AL.ro (rd_pick_t rfl rfl rfl) ?_
         refine AL.r (rd_pick_f rfl rfl rfl) ?_
         refine AL.nil ?_
         change AW _ _ _ _ _
         refine AW.cd rfl (fun h81 => ?_) (fun h81 => ?_)
         ·skip
          exact absurd ((hbad (by assumption)).symm.trans h81) (by decide)
         ·skip
          refine AW.skip ?_
          change AW _ _ _ _ _
          refine AW.seq ?_
          refine AW.region ?_
          refine AL.rm ?_
          refine AL.rm ?_
          refine AL.op rfl (calloR (rnew_c b (by omega) f 0) [1] ?_)
          rintro y os' ⟨rfl, rfl⟩
          refine AL.noR ?_
          refine AL.ra ?_
          refine AL.nil ?_
          change AW _ _ _ _ _
          refine AW.seq ?_
          refine AW.region ?_
          refine AL.rm ?_
          refine AL.op rfl (calloR (sget_c 1 (newR b f) (newR_ok (by omega) f)) [1] ?_)
          rintro y os' ⟨rfl, r2, ho2, rfl, hb2, hr2⟩
          refine AL.noR ?_
          refine AL.ra ?_
          refine AL.nil ?_
          change AW _ _ _ _ _
          refine AW.seq ?_
          refine AW.region ?_
          refine AL.rm ?_
          refine AL.rm ?_
          refine AL.op rfl (AOpB.op (op_call (rget14_c b f 0 (by omega) (by omega)) rfl (by kernel_rfl) rfl (none) ?_))
          rintro r rfl
          refine AL.no ?_
          refine AL.rm ?_
          refine AL.r (rd_extract rfl rfl rfl) ?_
          refine AL.r (rd_extract rfl rfl rfl) ?_
          refine AL.r (rd_extract rfl rfl rfl) ?_
          refine AL.ra ?_
          refine AL.ra ?_
          refine AL.ra ?_
          refine AL.nil ?_
          change AW _ _ _ _ _
          refine AW.seq ?_
          refine AW.seq ?_
          refine AW.region ?_
          refine AL.rm ?_
          refine AL.r (rd_un rfl rfl (fun _ => rfl)) ?_
          refine AL.nil ?_
          change AW _ _ _ _ _
          refine AW.cd rfl (fun h95 => ?_) (fun h95 => ?_)
          ·skip
           refine AW.seq ?_
           refine AW.region ?_
           obtain ⟨e1, e2⟩ := simS_bad hok (b := b) (by assumption)
           refine AL.rm ?_
           refine AL.op rfl (calloR (rbad_c 1 r2) [1] ?_)
           rintro y os' ⟨rfl, rfl⟩
           refine AL.noR ?_
           refine AL.rm ?_
           refine AL.fk (d := 98) rfl (fun h98 => ?_) (fun h98 => ?_)
           ·skip
            refine AL.n ?_
            refine AL.ro (rd_move rfl rfl) ?_
            refine AL.ro (rd_len_sl rfl el_23 rfl) ?_
            refine AL.ro (rd_bin rfl rfl rfl (fun _ => rfl)) ?_
            refine AL.r (rd_pick_t rfl rfl rfl) ?_
            refine AL.ra ?_
            refine AL.nil ?_
            change AW _ _ _ _ _
            refine AW.ret ?_
            change ResA _ _ _ _ _
            refine res1 rfl (ResV.tmp rfl) rfl ?_
            rw [e2]; rfl
           ·skip
            (rw [e1] at hb2; exact absurd (hb2.symm.trans h98) (by decide))
          ·skip
           refine AW.skip ?_
           change AW _ _ _ _ _
           refine AW.seq ?_
           refine AW.region ?_
           obtain ⟨e1, e2, e3⟩ := simS_good hok (b := b) (by assumption)
           have e4 := get14_hi hok (b := b) (by omega) (by assumption)
           rw [← hr2 e1] at e3
           refine AL.rm ?_
           refine AL.op rfl (calloR (rbad_c 1 r2) [1] ?_)
           rintro y os' ⟨rfl, rfl⟩
           refine AL.noR ?_
           refine AL.r (rd_un rfl rfl (fun _ => rfl)) ?_
           refine AL.rm ?_
           refine AL.fk (d := 106) rfl (fun h106 => ?_) (fun h106 => ?_)
           ·skip
            refine AL.n ?_
            refine AL.ro (rd_move rfl rfl) ?_
            refine AL.on rfl rfl rfl (calloR (rleft_c 1 r2 ho2) [1] ?_)
            rintro y os' ⟨rfl, rfl⟩
            refine AL.noR ?_
            refine AL.ro (rd_move rfl rfl) ?_
            refine AL.ro (rd_len_sl rfl el_83 rfl) ?_
            refine AL.ro (rd_move rfl rfl) ?_
            refine AL.ro (rd_arith_sub rfl rfl rfl (IntWalk.i64_in _ (by omega))) ?_
            refine AL.ro (rd_bin rfl rfl rfl (fun _ => rfl)) ?_
            refine AL.r (rd_pick_t rfl rfl rfl) ?_
            refine AL.rm ?_
            refine AL.fk (d := 115) rfl (fun h115 => ?_) (fun h115 => ?_)
            ·skip
             refine AL.n ?_
             refine AL.ro (rd_move rfl rfl) ?_
             refine AL.ro (rd_move rfl rfl) ?_
             refine AL.on rfl rfl rfl (AOpB.op (op_call (rsame14s (gS (newR b f)) (get14 b f 0).1 (by rw [e2]; exact get14_smallS b f 0)) rfl (by kernel_rfl) rfl (none) ?_))
             rintro r rfl
             refine AL.no ?_
             refine AL.r (rd_pick_t rfl rfl rfl) ?_
             refine AL.ra ?_
             refine AL.nil ?_
             change AW _ _ _ _ _
             refine AW.ret ?_
             change ResA _ _ _ _ _
             refine res1 rfl (ResV.tmp rfl) rfl ?_
             rw [decide_eq_true e2]
            ·skip
             exact absurd e3 h115
           ·skip
            (rw [e1] at hb2; exact absurd (hb2.symm.trans h106) (by decide))
        ·skip
         exact absurd (h61.symm.trans h76) (by decide)
    ·skip
     omega
theorem sbytes_c : AC Try.prog 11 [.sl (l.map FldD.cs), .sc (.int .i64 f), .sl (byA b)] (fun r => r = .s (AB true)) := by
  cases hok : okF f with
  | true =>
    rcases okF_iff.1 hok with h | h
    · exact sbytes_1 l f b hw hf h hok
    · exact sbytes_2 l f b hw hf h hok
  | false => exact sbytes_0 l f b hw hf (fun h => by rw [h] at hok; cases hok) (fun h => by rw [h] at hok; cases hok) hok
end
theorem walk_SchemaBytes (w : World) (v0 : Value) (l0 : List FldD) (ok0 : ∀ f ∈ l0, okFld f) (rp0 : RepS AnyB w v0 (.sl (l0.map FldD.cs))) (a1 : Int) (w1 : (Lit.int .i64 a1).wf = true) (v2 : Value) (b2 : List UInt8) (hb2 : b2.length ≤ maxLen) (rp2 : RepS AnyB w v2 (.sl (byA b2))) :
    Calls Try.prog 11 #[v0, .int .i64 a1, v2] w fun e w' => e = .returned (.bool true) ∧ Below w.heap.size w w' :=
  (sbytes_c l0 a1 b2 (fun x hx => (ok0 x hx).wf) (by have := bounds_i64 w1; unfold i64R; omega)).law (vs := [v0, .int .i64 a1, v2]) rfl (rep_cons rp0 (rep_cons (.sc _) (rep_cons rp2 rep_nil)))
end Go.Proofs.Ytfjnkhanndkpfaa
