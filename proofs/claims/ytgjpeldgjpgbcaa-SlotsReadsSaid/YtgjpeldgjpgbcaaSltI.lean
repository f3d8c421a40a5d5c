/- The law SlotsReads, plain: what a put does on a disk without a fuse, whatever stood there. No conditions. -/
import Derived.Test.YtgjpeldgjpgbcaaSltH
namespace Go.Proofs.Ytgjpeldgjpgbcaa
set_option linter.unusedSimpArgs false
set_option linter.unusedVariables false
set_option maxRecDepth 100000
open Go.RowKit

def putF (t : Nat → Nat) (F : Files) (c E : Nat) (x : List UInt8) (left : Int) : Files := if 59992 < x.length then F else if 4611686018427387904 ≤ E then F else if left + (F (1 - c)).length < ((frameN t (snapN (E + 1) x)).length : Int) then upd F (1 - c) [] else upd F (1 - c) (frameN t (snapN (E + 1) x))
def putC (t : Nat → Nat) (F : Files) (c E : Nat) (x : List UInt8) (left : Int) : Int := if 59992 < x.length then 14 else if 4611686018427387904 ≤ E then 3 else if left + (F (1 - c)).length < ((frameN t (snapN (E + 1) x)).length : Int) then 9 else 0
section
variable {t : Nat → Nat} {R : Int} {K : Nat} {F : Files} {S : SltD} {d : DiskD} {c E : Nat} {h x : List UInt8}
/-- No room: the file is cut, and nothing more. -/
theorem Rest.full (hr : Rest R K F d) (hf : d.fused = false) {o : Nat} (ho : o < 4) {b : List UInt8} (hb : leftD d + (F o).length < b.length) : wrR d o b = 9 ∧ (wrD d o b).Ok (K + 2) ∧ (wrD d o b).n = upd F o [] ∧ (wrD d o b).dark = false := by
  rcases cut_ok hr.gro.ok ho (n := 0) (Nat.zero_le _) hr.dark with ⟨_, _, _, c4⟩ | ⟨c1, c2, c3⟩
  · rw [hf] at c4; cases c4
  · have c1' : cutR d o 0 = 0 := c1
    have c2' : cutD d o 0 = cutD1 (burnD d 1) o 0 := c2
    have c3' : (cutD d o 0).dark = false := c3
    have n1 : (cutD d o 0).n = upd F o [] := by rw [c2']; show upd d.n o ((d.n o).take 0) = _; rw [hr.n, List.take_zero]
    have r1 : (cutD d o 0).room = d.room := by rw [c2']; rfl
    have t1 := tot_upd (s := F) ho []
    have hleft : leftD (cutD d o 0) < b.length := by rw [leftD_eq, r1, n1]; rw [leftD_eq, hr.n] at hb; simp at t1; omega
    obtain ⟨a1, a2⟩ := app_full (i := o) c3' hleft
    have e1 : wrR d o b = 9 := by unfold wrR; rw [if_pos c1', if_neg (by rw [a1]; decide), a1]
    have e2 : wrD d o b = cutD d o 0 := by unfold wrD; rw [if_pos c1', if_neg (by rw [a1]; decide), a2]
    rw [e2]
    exact ⟨e1, (cutD_Ok hr.gro.ok ho 0).mono (by omega), n1, c3'⟩
theorem Sw.any (w : Sw t 0 R K F S d c E h) (hf : d.fused = false) :
    sputR t S d 0 c E x = putC t F c E x (leftD d) ∧ (sputD t S d 0 c E x).Ok (K + 2) ∧ (sputD t S d 0 c E x).n = putF t F c E x (leftD d) ∧ (sputD t S d 0 c E x).dark = false ∧
    (sputS t S d 0 c E x).epoch = (if putC t F c E x (leftD d) = 0 then ((E + 1 : Nat) : Int) else (E : Int)) ∧ (sputS t S d 0 c E x).bytes = (if putC t F c E x (leftD d) = 0 then x else h) ∧
    (openS t (sputD t S d 0 c E x) 0).epoch = (if putC t F c E x (leftD d) = 0 then ((E + 1 : Nat) : Int) else (E : Int)) ∧ (openS t (sputD t S d 0 c E x) 0).bytes = (if putC t F c E x (leftD d) = 0 then x else h) := by
  have hp := w.pos
  have hnd : ¬ (S.down || d.dark) = true := by rw [w.down, w.rest.dark]; decide
  unfold putC putF
  by_cases h1 : 59992 < x.length
  · obtain ⟨e1, e2, e3⟩ := put_long (t := t) (f := 0) (c := c) (e := E) hnd h1
    have ho : openS t d 0 = ⟨0, c, E, h, false⟩ := SI.opened (d := d) (f := 0) (by rw [w.rest.n]; exact w.si)
    rw [e1, e2, e3, ho]
    simp only [if_pos h1]
    exact ⟨trivial, w.rest.gro.ok.mono (by omega), w.rest.n, w.rest.dark, hp.epoch, w.bytes, rfl, rfl⟩
  · by_cases h2 : 4611686018427387904 ≤ E
    · obtain ⟨e1, e2, e3⟩ := put_over (t := t) (f := 0) (c := c) (e := E) hnd h1 h2
      have ho : openS t d 0 = ⟨0, c, E, h, false⟩ := SI.opened (d := d) (f := 0) (by rw [w.rest.n]; exact w.si)
      rw [e1, e2, e3, ho]
      simp only [if_neg h1, if_pos h2]
      exact ⟨trivial, w.rest.gro.ok.mono (by omega), w.rest.n, w.rest.dark, hp.epoch, w.bytes, rfl, rfl⟩
    · obtain ⟨e1, e2, e3⟩ := put_go (t := t) (f := 0) (c := c) (e := E) hnd h1 h2
      rw [Nat.zero_add] at e1 e2 e3
      have ho4 : 1 - c < 4 := by omega
      by_cases h3 : leftD d + (F (1 - c)).length < ((frameN t (snapN (E + 1) x)).length : Int)
      · obtain ⟨a1, a2, a3, a4⟩ := w.rest.full hf ho4 h3
        have hsi : SI t (upd F (1 - c) []) 0 c E h := by
          have := w.si.torn (p := []) (by rw [slot_empty])
          rwa [Nat.zero_add] at this
        have ho : openS t (wrD d (1 - c) (frameN t (snapN (E + 1) x))) 0 = ⟨0, c, E, h, false⟩ := SI.opened (f := 0) (by rw [a3]; exact hsi)
        rw [e1, e2, e3, ho, a1]
        simp only [if_neg h1, if_neg h2, if_pos h3]
        exact ⟨trivial, a2, a3, a4, hp.epoch, w.bytes, rfl, rfl⟩
      · have hfl := frameN_len t (snapN (E + 1) x)
        rcases w.rest.write ho4 (b := frameN t (snapN (E + 1) x)) (by omega) (by rw [leftD_eq, w.rest.n, w.rest.gro.room] at h3; omega) with ⟨a1, a2, a3⟩ | ⟨_, a2, _⟩
        · have hsi : SI t (upd F (1 - c) (frameN t (snapN (E + 1) x))) 0 (1 - c) (E + 1) x := by
            have := w.si.full (x := x) (by omega) (by omega)
            rwa [Nat.zero_add] at this
          have ho : openS t (wrD d (1 - c) (frameN t (snapN (E + 1) x))) 0 = ⟨0, ((1 - c : Nat) : Int), ((E + 1 : Nat) : Int), x, false⟩ := SI.opened (f := 0) (by rw [a2.n]; exact hsi)
          rw [e1, e2, e3, ho, a1]
          simp only [if_neg h1, if_neg h2, if_neg h3, if_true]
          exact ⟨trivial, a2.gro.ok, a2.n, a2.dark, by first | trivial | rfl, by first | trivial | rfl, by first | trivial | rfl, by first | trivial | rfl⟩
        · rw [hf] at a2; cases a2
end
/-- Which slot the reference tells. -/
def whichN (t : Nat → Nat) (a b : List UInt8) : Int := if (slotN t a).1 = 0 ∧ (slotN t b).1 = 0 then -1 else if (slotN t b).1 ≤ (slotN t a).1 then 0 else 1
def cntE (t : Nat → Nat) (a b : List UInt8) : Nat × List UInt8 := if (slotN t a).1 = 0 ∧ (slotN t b).1 = 0 then (0, []) else if (slotN t b).1 ≤ (slotN t a).1 then slotN t a else slotN t b
section
variable (t : Nat → Nat) (ht : ∀ i, i < 256 → t i < 4294967296)
include ht
theorem rcounts_c (a b : List UInt8) (ha : a.length ≤ 1099511627776) (hb : b.length ≤ 1099511627776) : AC Try.prog 53 [.sc (tabV t), .sl (byA a), .sl (byA b)] (fun r => r = .s (.tu [.sc (.int .i64 (whichN t a b)), .sc (.int .i64 ((cntE t a b).1 : Int)), .sl (byA (cntE t a b).2)])) := by
  refine AC.of' 35 1 Try.func53 rfl ?_
  change AW _ _ _ _ [TK.mk 0 .off]
  refine AW.seq ?_
  refine AW.region ?_
  refine AL.op rfl (AOpB.op (op_tabbox 0 rfl rfl rfl ?_))
  refine AL.n ?_
  refine AL.ra ?_
  refine AL.ra ?_
  refine AL.ra ?_
  refine AL.nil ?_
  change AW _ _ _ _ _
  refine AW.seq ?_
  refine AW.region ?_
  refine AL.r (rd_tab0 rfl ag_53 rfl rfl) ?_
  refine AL.rm ?_
  refine AL.op rfl (AOpB.op (op_call (rslot_c t ht a ha) rfl (by kernel_rfl) rfl (none) ?_))
  rintro r rfl
  refine AL.n ?_
  refine AL.rm ?_
  refine AL.r (rd_extract rfl rfl rfl) ?_
  refine AL.r (rd_extract rfl rfl rfl) ?_
  refine AL.ra ?_
  refine AL.ra ?_
  refine AL.nil ?_
  change AW _ _ _ _ _
  refine AW.seq ?_
  refine AW.region ?_
  refine AL.r (rd_tab0 rfl ag_53 rfl rfl) ?_
  refine AL.rm ?_
  refine AL.op rfl (AOpB.op (op_call (rslot_c t ht b hb) rfl (by kernel_rfl) rfl (none) ?_))
  rintro r rfl
  refine AL.n ?_
  refine AL.rm ?_
  refine AL.r (rd_extract rfl rfl rfl) ?_
  refine AL.r (rd_extract rfl rfl rfl) ?_
  refine AL.ra ?_
  refine AL.ra ?_
  refine AL.nil ?_
  change AW _ _ _ _ _
  refine AW.seq ?_
  refine AW.seq ?_
  refine AW.region ?_
  refine AL.rm ?_
  refine AL.r (rd_bin rfl rfl rfl (fun _ => rfl)) ?_
  refine AL.rm ?_
  refine AL.fk (d := 27) rfl (fun h27 => ?_) (fun h27 => ?_)
  ·skip
   refine AL.n ?_
   refine AL.ro (rd_move rfl rfl) ?_
   refine AL.ro (rd_bin rfl rfl rfl (fun _ => rfl)) ?_
   refine AL.r (rd_pick_t rfl rfl rfl) ?_
   refine AL.nil ?_
   change AW _ _ _ _ _
   refine AW.cd rfl (fun h30 => ?_) (fun h30 => ?_)
   ·skip
    refine AW.seq ?_
    refine AW.region ?_
    refine AL.ra ?_
    refine AL.ra ?_
    refine AL.ra ?_
    refine AL.nil ?_
    change AW _ _ _ _ _
    refine AW.ret ?_
    change ResA _ _ _ _ _
    refine res3 rfl (ResV.tmp rfl) rfl (ResV.tmp rfl) rfl (ResV.tmp rfl) rfl ?_
    (have e : (slotN t a).1 = 0 ∧ (slotN t b).1 = 0 := ⟨by omega, by omega⟩); unfold whichN cntE; rw [if_pos e, if_pos e]; rfl
   ·skip
    refine AW.skip ?_
    change AW _ _ _ _ _
    refine AW.seq ?_
    refine AW.seq ?_
    refine AW.region ?_
    refine AL.rm ?_
    refine AL.rm ?_
    refine AL.r (rd_bin rfl rfl rfl (fun _ => rfl)) ?_
    refine AL.nil ?_
    change AW _ _ _ _ _
    refine AW.cd rfl (fun h33 => ?_) (fun h33 => ?_)
    ·skip
     refine AW.seq ?_
     refine AW.region ?_
     refine AL.rm ?_
     refine AL.rm ?_
     refine AL.ra ?_
     refine AL.ra ?_
     refine AL.ra ?_
     refine AL.nil ?_
     change AW _ _ _ _ _
     refine AW.ret ?_
     change ResA _ _ _ _ _
     refine res3 rfl (ResV.tmp rfl) rfl (ResV.tmp rfl) rfl (ResV.tmp rfl) rfl ?_
     first | (have e : ¬((slotN t a).1 = 0 ∧ (slotN t b).1 = 0) := (fun h => h27 (by rw [h.1]; rfl)); unfold whichN cntE; rw [if_neg e, if_neg e, if_pos (by omega), if_pos (by omega)]) | (have e : ¬((slotN t a).1 = 0 ∧ (slotN t b).1 = 0) := (fun h => h30 (by rw [h.2]; rfl)); unfold whichN cntE; rw [if_neg e, if_neg e, if_pos (by omega), if_pos (by omega)])
    ·skip
     refine AW.skip ?_
     change AW _ _ _ _ _
     refine AW.seq ?_
     refine AW.region ?_
     refine AL.rm ?_
     refine AL.rm ?_
     refine AL.ra ?_
     refine AL.ra ?_
     refine AL.ra ?_
     refine AL.nil ?_
     change AW _ _ _ _ _
     refine AW.ret ?_
     change ResA _ _ _ _ _
     refine res3 rfl (ResV.tmp rfl) rfl (ResV.tmp rfl) rfl (ResV.tmp rfl) rfl ?_
     first | (have e : ¬((slotN t a).1 = 0 ∧ (slotN t b).1 = 0) := (fun h => h27 (by rw [h.1]; rfl)); unfold whichN cntE; rw [if_neg e, if_neg e, if_neg (by omega), if_neg (by omega)]) | (have e : ¬((slotN t a).1 = 0 ∧ (slotN t b).1 = 0) := (fun h => h30 (by rw [h.2]; rfl)); unfold whichN cntE; rw [if_neg e, if_neg e, if_neg (by omega), if_neg (by omega)])
  ·skip
   refine AL.n ?_
   refine AL.rf ?_
   refine AL.rf ?_
   refine AL.r (rd_pick_f rfl rfl rfl) ?_
   refine AL.nil ?_
   change AW _ _ _ _ _
   refine AW.cond_f rfl ?_
   refine AW.skip ?_
   change AW _ _ _ _ _
   refine AW.seq ?_
   refine AW.seq ?_
   refine AW.region ?_
   refine AL.rm ?_
   refine AL.rm ?_
   refine AL.r (rd_bin rfl rfl rfl (fun _ => rfl)) ?_
   refine AL.nil ?_
   change AW _ _ _ _ _
   refine AW.cd rfl (fun h33 => ?_) (fun h33 => ?_)
   ·skip
    refine AW.seq ?_
    refine AW.region ?_
    refine AL.rm ?_
    refine AL.rm ?_
    refine AL.ra ?_
    refine AL.ra ?_
    refine AL.ra ?_
    refine AL.nil ?_
    change AW _ _ _ _ _
    refine AW.ret ?_
    change ResA _ _ _ _ _
    refine res3 rfl (ResV.tmp rfl) rfl (ResV.tmp rfl) rfl (ResV.tmp rfl) rfl ?_
    first | (have e : ¬((slotN t a).1 = 0 ∧ (slotN t b).1 = 0) := (fun h => h27 (by rw [h.1]; rfl)); unfold whichN cntE; rw [if_neg e, if_neg e, if_pos (by omega), if_pos (by omega)]) | (have e : ¬((slotN t a).1 = 0 ∧ (slotN t b).1 = 0) := (fun h => h30 (by rw [h.2]; rfl)); unfold whichN cntE; rw [if_neg e, if_neg e, if_pos (by omega), if_pos (by omega)])
   ·skip
    refine AW.skip ?_
    change AW _ _ _ _ _
    refine AW.seq ?_
    refine AW.region ?_
    refine AL.rm ?_
    refine AL.rm ?_
    refine AL.ra ?_
    refine AL.ra ?_
    refine AL.ra ?_
    refine AL.nil ?_
    change AW _ _ _ _ _
    refine AW.ret ?_
    change ResA _ _ _ _ _
    refine res3 rfl (ResV.tmp rfl) rfl (ResV.tmp rfl) rfl (ResV.tmp rfl) rfl ?_
    first | (have e : ¬((slotN t a).1 = 0 ∧ (slotN t b).1 = 0) := (fun h => h27 (by rw [h.1]; rfl)); unfold whichN cntE; rw [if_neg e, if_neg e, if_neg (by omega), if_neg (by omega)]) | (have e : ¬((slotN t a).1 = 0 ∧ (slotN t b).1 = 0) := (fun h => h30 (by rw [h.2]; rfl)); unfold whichN cntE; rw [if_neg e, if_neg e, if_neg (by omega), if_neg (by omega)])
end
abbrev two (a b : List UInt8) : Files := upd (one 0 a) 1 b
def putX (t : Nat → Nat) (F : Files) (c E : Nat) (x : List UInt8) (left : Int) : List UInt8 := if left + (F (1 - c)).length < ((frameN t (snapN (E + 1) x)).length : Int) then [] else frameN t (snapN (E + 1) x)
def putY (t : Nat → Nat) (F : Files) (c E : Nat) (x : List UInt8) (left : Int) : Int := if left + (F (1 - c)).length < ((frameN t (snapN (E + 1) x)).length : Int) then 9 else 0
theorem put_xy {t : Nat → Nat} {F : Files} {c E : Nat} {x : List UInt8} {left : Int} (h1 : ¬ 59992 < x.length) (h2 : ¬ 4611686018427387904 ≤ E) : putF t F c E x left = upd F (1 - c) (putX t F c E x left) ∧ putC t F c E x left = putY t F c E x left := by
  unfold putF putC putX putY
  rw [if_neg h1, if_neg h1, if_neg h2, if_neg h2]
  refine ⟨?_, rfl⟩
  split <;> rfl
theorem rd_nil0 {P : Program} {o : Oper} {t : List AV} {st : List TK} (ho : o.op = .assign (.const (.slice none 0 0))) : ARd P o t st (.sl (byA [])) := fun F ρ w0 w a hs hm => ⟨.slice none 0 0, .s (.sl0 none 0 (Nat.zero_le _)), fun w' _ => by simp only [execOp, ho]; rfl⟩
theorem putx_t {t : Nat → Nat} {F : Files} {o : List UInt8} {c E : Nat} {x : List UInt8} {left : Int} (ho : o = F (1 - c)) (h : left + (o.length : Int) < ((frameN t (snapN (E + 1) x)).length : Int)) : [] = putX t F c E x left ∧ 9 = putY t F c E x left := by
  subst ho
  unfold putX putY
  rw [if_pos h, if_pos h]
  exact ⟨rfl, rfl⟩
theorem putx_f {t : Nat → Nat} {F : Files} {o : List UInt8} {c E : Nat} {x : List UInt8} {left : Int} (ho : o = F (1 - c)) (h : ¬ left + (o.length : Int) < ((frameN t (snapN (E + 1) x)).length : Int)) : frameN t (snapN (E + 1) x) = putX t F c E x left ∧ 0 = putY t F c E x left := by
  subst ho
  unfold putX putY
  rw [if_neg h, if_neg h]
  exact ⟨rfl, rfl⟩
theorem two_b {a b : List UInt8} {c : Nat} {w : Int} (hc : (c = 0 ∧ w = 0) ∨ (c = 1 ∧ ¬ w = 0)) (h : w = 0) (hb : b.length ≤ 2000) : b = two a b (1 - c) ∧ b.length ≤ 2000 := by
  rcases hc with ⟨rfl, _⟩ | ⟨_, h2⟩
  · exact ⟨rfl, hb⟩
  · exact absurd h h2
theorem two_a {a b : List UInt8} {c : Nat} {w : Int} (hc : (c = 0 ∧ w = 0) ∨ (c = 1 ∧ ¬ w = 0)) (h : ¬ w = 0) (ha : a.length ≤ 2000) : a = two a b (1 - c) ∧ a.length ≤ 2000 := by
  rcases hc with ⟨_, h2⟩ | ⟨rfl, _⟩
  · exact absurd h2 h
  · exact ⟨rfl, ha⟩
section
variable (t : Nat → Nat) (ht : ∀ i, i < 256 → t i < 4294967296)
include ht
theorem rput_c (a b x : List UInt8) (left : Int) (ha : a.length ≤ 2000) (hb : b.length ≤ 2000) (hx : x.length ≤ 61000) (hl : 0 ≤ left ∧ left ≤ 200000) {c E : Nat} {h : List UInt8} (hc : (c = 0 ∧ whichN t a b = 0) ∨ (c = 1 ∧ ¬ whichN t a b = 0)) (hE : cntE t a b = (E, h)) (hE2 : E ≤ 4611686018427387904) :
    AC Try.prog 54 [.sc (tabV t), .sl (byA a), .sl (byA b), .sl (byA x), .sc (.int .i64 left)] (fun r => r = .s (.tu [.sl (byA (putF t (two a b) c E x left 0)), .sl (byA (putF t (two a b) c E x left 1)), .sc (.int .i64 (putC t (two a b) c E x left))])) := by
  have hfl := frameN_len t (snapN (E + 1) x)
  have hsl := snapN_len (E + 1) x
  have hc0 := rcounts_c t ht a b (by omega) (by omega)
  rw [hE] at hc0
  refine AC.of' 56 1 Try.func54 rfl ?_
  change AW _ _ _ _ [TK.mk 0 .off]
  refine AW.seq ?_
  refine AW.region ?_
  refine AL.op rfl (AOpB.op (op_tabbox 0 rfl rfl rfl ?_))
  refine AL.no ?_
  refine AL.ra ?_
  refine AL.ra ?_
  refine AL.ra ?_
  refine AL.nil ?_
  change AW _ _ _ _ _
  refine AW.seq ?_
  refine AW.region ?_
  refine AL.r (rd_tab0 rfl ag_53 rfl rfl) ?_
  refine AL.rm ?_
  refine AL.rm ?_
  refine AL.op rfl (AOpB.op (op_call (hc0) rfl (by kernel_rfl) rfl (none) ?_))
  rintro r rfl
  refine AL.no ?_
  refine AL.rm ?_
  refine AL.r (rd_extract rfl rfl rfl) ?_
  refine AL.r (rd_extract rfl rfl rfl) ?_
  refine AL.r (rd_extract rfl rfl rfl) ?_
  refine AL.ra ?_
  refine AL.ra ?_
  refine AL.ra ?_
  refine AL.nil ?_
  change AW _ _ _ _ _
  refine AW.seq ?_
  refine AW.seq ?_
  refine AW.region ?_
  refine AL.rm ?_
  refine AL.r (rd_len_sl rfl el_29 rfl) ?_
  refine AL.r (rd_bin rfl rfl rfl (fun _ => rfl)) ?_
  refine AL.nil ?_
  change AW _ _ _ _ _
  refine AW.cd rfl (fun h29 => ?_) (fun h29 => ?_)
  ·skip
   refine AW.seq ?_
   refine AW.region ?_
   refine AL.rm ?_
   refine AL.rm ?_
   refine AL.ra ?_
   refine AL.ra ?_
   refine AL.ra ?_
   refine AL.nil ?_
   change AW _ _ _ _ _
   refine AW.ret ?_
   change ResA _ _ _ _ _
   refine res3 rfl (ResV.tmp rfl) rfl (ResV.tmp rfl) rfl (ResV.tmp rfl) rfl ?_
   (have e : 59992 < x.length := (by omega)); unfold putF putC; rw [if_pos e, if_pos e]; rfl
  ·skip
   refine AW.skip ?_
   change AW _ _ _ _ _
   refine AW.seq ?_
   refine AW.seq ?_
   refine AW.region ?_
   refine AL.rm ?_
   refine AL.r (rd_bin rfl rfl rfl (fun _ => rfl)) ?_
   refine AL.nil ?_
   change AW _ _ _ _ _
   refine AW.cd rfl (fun h33 => ?_) (fun h33 => ?_)
   ·skip
    refine AW.seq ?_
    refine AW.region ?_
    refine AL.rm ?_
    refine AL.rm ?_
    refine AL.ra ?_
    refine AL.ra ?_
    refine AL.ra ?_
    refine AL.nil ?_
    change AW _ _ _ _ _
    refine AW.ret ?_
    change ResA _ _ _ _ _
    refine res3 rfl (ResV.tmp rfl) rfl (ResV.tmp rfl) rfl (ResV.tmp rfl) rfl ?_
    (have e : ¬ 59992 < x.length := (by omega)); (have e2 : 4611686018427387904 ≤ E := (by omega)); unfold putF putC; rw [if_neg e, if_neg e, if_pos e2, if_pos e2]; rfl
   ·skip
    refine AW.skip ?_
    change AW _ _ _ _ _
    refine AW.seq ?_
    refine AW.draw (by kernel_rfl) ?_
    refine AD.r 0 rfl (rd_tab0 rfl ag_53 rfl rfl) rfl ?_
    refine AD.r 1 rfl (rd_move rfl rfl) rfl ?_
    refine AD.r 2 rfl (rd_arith_add rfl rfl rfl ((IntWalk.i64_in _ (by omega)).trans (show (E : Int) + 1 = ((E + 1 : Nat) : Int) by omega))) rfl ?_
    refine AD.r 3 rfl (rd_move rfl rfl) rfl ?_
    refine AD.move 4 rfl (by kernel_rfl) rfl (op_call (rtext_c (E + 1) (by omega) x (by omega)) rfl (by kernel_rfl) rfl (none) ?_)
    rintro r rfl
    refine AD.n ?_
    refine AD.move 5 rfl (by kernel_rfl) rfl (op_call (rframe_c t ht (snapN (E + 1) x) (by omega)) rfl (by kernel_rfl) rfl (none) ?_)
    rintro r rfl
    refine AD.n ?_
    refine AD.r 6 rfl (rd_assign rfl rfl) rfl ?_
    refine AD.done (by kernel_rfl) ?_
    change AW _ _ _ _ _
    refine AW.seq ?_
    refine AW.region ?_
    refine AL.rm ?_
    refine AL.ra ?_
    refine AL.nil ?_
    change AW _ _ _ _ _
    refine AW.join (ι := List UInt8) [43, 44, 45] (fun o => [(17, .sl (byA o))]) [] (fun o => []) (fun o => o = two a b (1 - c) ∧ o.length ≤ 2000) ?_ ?_
    ·skip
     refine AW.seq ?_
     refine AW.region ?_
     refine AL.rm ?_
     refine AL.r (rd_bin rfl rfl rfl (fun _ => rfl)) ?_
     refine AL.nil ?_
     change AW _ _ _ _ _
     refine AW.cd rfl (fun h44 => ?_) (fun h44 => ?_)
     ·skip
      refine AW.region ?_
      refine AL.rm ?_
      refine AL.ra ?_
      refine AL.nil ?_
      refine ⟨b, two_b hc h44 hb, (by simp only [anys, upds, offs, List.set_cons_zero, List.set_cons_succ]; repeat (first | exact Wk.nil | refine Wk.same ?_ | refine Wk.any ?_)), (by simp only [anys, upds, offs, List.set_cons_zero, List.set_cons_succ]; repeat (first | exact Sk.nil _ | refine Sk.same _ ?_ | refine Sk.scr _ (by decide) ?_))⟩
     ·skip
      refine AW.skip ?_
      refine ⟨a, two_a hc h44 ha, (by simp only [anys, upds, offs, List.set_cons_zero, List.set_cons_succ]; repeat (first | exact Wk.nil | refine Wk.same ?_ | refine Wk.any ?_)), (by simp only [anys, upds, offs, List.set_cons_zero, List.set_cons_succ]; repeat (first | exact Sk.nil _ | refine Sk.same _ ?_ | refine Sk.scr _ (by decide) ?_))⟩
    ·rintro o gs44 hJ44
     refine AW.norm (by simp only [anys, upds, offs, List.set_cons_zero, List.set_cons_succ]; rfl) (by (try simp only [anys, upds, offs, List.set_cons_zero, List.set_cons_succ]); (try rfl)) ?_
     (try dsimp only at hJ44)
     change AW _ _ _ _ _
     refine AW.seq ?_
     refine AW.region ?_
     obtain ⟨ho, hol⟩ := hJ44
     refine AL.ra ?_
     refine AL.nil ?_
     change AW _ _ _ _ _
     refine AW.join (ι := List UInt8 × Int) [46, 47, 48, 49, 50, 51, 52] (fun ⟨f2, y2⟩ => [(16, .sl (byA f2)), (18, .sc (.int .i64 y2))]) [] (fun ⟨f2, y2⟩ => []) (fun ⟨f2, y2⟩ => f2 = putX t (two a b) c E x left ∧ y2 = putY t (two a b) c E x left) ?_ ?_
     ·skip
      refine AW.seq ?_
      refine AW.region ?_
      refine AL.rm ?_
      refine AL.r (rd_len_sl rfl el_29 rfl) ?_
      refine AL.rm ?_
      refine AL.rm ?_
      refine AL.r (rd_len_sl rfl el_29 rfl) ?_
      refine AL.r (rd_arith_add rfl rfl rfl (IntWalk.i64_in _ (by omega))) ?_
      refine AL.r (rd_bin rfl rfl rfl (fun _ => rfl)) ?_
      refine AL.nil ?_
      change AW _ _ _ _ _
      refine AW.cd rfl (fun h52 => ?_) (fun h52 => ?_)
      ·skip
       refine AW.seq ?_
       refine AW.region ?_
       refine AL.r (rd_nil0 rfl) ?_
       refine AL.nil ?_
       change AW _ _ _ _ _
       refine AW.region ?_
       refine AL.ra ?_
       refine AL.nil ?_
       refine ⟨([], 9), putx_t ho h52, (by simp only [anys, upds, offs, List.set_cons_zero, List.set_cons_succ]; repeat (first | exact Wk.nil | refine Wk.same ?_ | refine Wk.any ?_)), (by simp only [anys, upds, offs, List.set_cons_zero, List.set_cons_succ]; repeat (first | exact Sk.nil _ | refine Sk.same _ ?_ | refine Sk.scr _ (by decide) ?_))⟩
      ·skip
       refine AW.skip ?_
       refine ⟨(frameN t (snapN (E + 1) x), 0), putx_f ho h52, (by simp only [anys, upds, offs, List.set_cons_zero, List.set_cons_succ]; repeat (first | exact Wk.nil | refine Wk.same ?_ | refine Wk.any ?_)), (by simp only [anys, upds, offs, List.set_cons_zero, List.set_cons_succ]; repeat (first | exact Sk.nil _ | refine Sk.same _ ?_ | refine Sk.scr _ (by decide) ?_))⟩
     ·rintro ⟨f2, y2⟩ gs52 hJ52
      refine AW.norm (by simp only [anys, upds, offs, List.set_cons_zero, List.set_cons_succ]; rfl) (by (try simp only [anys, upds, offs, List.set_cons_zero, List.set_cons_succ]); (try rfl)) ?_
      (try dsimp only at hJ52)
      change AW _ _ _ _ _
      refine AW.seq ?_
      refine AW.seq ?_
      refine AW.region ?_
      obtain ⟨hf2, hy2⟩ := hJ52
      obtain ⟨z1, z2⟩ := put_xy (t := t) (F := two a b) (c := c) (E := E) (x := x) (left := left) (by omega) (by omega)
      refine AL.rm ?_
      refine AL.r (rd_bin rfl rfl rfl (fun _ => rfl)) ?_
      refine AL.nil ?_
      change AW _ _ _ _ _
      refine AW.cd rfl (fun h54 => ?_) (fun h54 => ?_)
      ·skip
       refine AW.seq ?_
       refine AW.region ?_
       refine AL.rm ?_
       refine AL.rm ?_
       refine AL.rm ?_
       refine AL.ra ?_
       refine AL.ra ?_
       refine AL.ra ?_
       refine AL.nil ?_
       change AW _ _ _ _ _
       refine AW.ret ?_
       change ResA _ _ _ _ _
       refine res3 rfl (ResV.tmp rfl) rfl (ResV.tmp rfl) rfl (ResV.tmp rfl) rfl ?_
       rw [z1, z2, hf2, hy2]; rcases hc with ⟨rfl, _⟩ | ⟨_, h2⟩; rfl; exact absurd h54 h2
      ·skip
       refine AW.skip ?_
       change AW _ _ _ _ _
       refine AW.seq ?_
       refine AW.region ?_
       refine AL.rm ?_
       refine AL.rm ?_
       refine AL.rm ?_
       refine AL.ra ?_
       refine AL.ra ?_
       refine AL.ra ?_
       refine AL.nil ?_
       change AW _ _ _ _ _
       refine AW.ret ?_
       change ResA _ _ _ _ _
       refine res3 rfl (ResV.tmp rfl) rfl (ResV.tmp rfl) rfl (ResV.tmp rfl) rfl ?_
       rw [z1, z2, hf2, hy2]; rcases hc with ⟨_, h2⟩ | ⟨rfl, _⟩; exact absurd h2 h54; rfl
end
end Go.Proofs.Ytgjpeldgjpgbcaa
