/- The chapter's example of the slots; the law SlotsFirst, walked over abstract states. -/
import Derived.Test.YtgjpeldgjpgbcaaSltP
import Derived.Test.YtgjpeldgjpgbcaaJn
import Derived.Test.YtgjpeldgjpgbcaaMad
namespace Go.Proofs.Ytgjpeldgjpgbcaa
set_option linter.unusedSimpArgs false
set_option linter.unusedVariables false
set_option maxRecDepth 100000
open Go.RowKit

/-- Slots that nothing disturbs. -/
structure Sw (t : Nat → Nat) (f : Nat) (R : Int) (K : Nat) (F : Files) (S : SltD) (d : DiskD) (c E : Nat) (h : List UInt8) : Prop where
  rest : Rest R K F d
  pos : S.At f c E
  bytes : S.bytes = h
  down : S.down = false
  si : SI t F f c E h
section
variable {t : Nat → Nat} {f : Nat} {R : Int} {K : Nat} {F : Files} {S : SltD} {d : DiskD} {c E : Nat} {h : List UInt8}
theorem Sw.go (w : Sw t f R K F S d c E h) {x : List UInt8} (hx : x.length ≤ 59992) (hE : E < 4611686018427387904) : sputR t S d f c E x = wrR d (f + (1 - c)) (frameN t (snapN (E + 1) x)) ∧ sputS t S d f c E x = (if wrR d (f + (1 - c)) (frameN t (snapN (E + 1) x)) = 0 then { S with counts := ((1 - c : Nat) : Int), epoch := ((E + 1 : Nat) : Int), bytes := x } else { S with down := decide (wrR d (f + (1 - c)) (frameN t (snapN (E + 1) x)) = 10) }) ∧ sputD t S d f c E x = wrD d (f + (1 - c)) (frameN t (snapN (E + 1) x)) :=
  put_go (by rw [w.down, w.rest.dark]; decide) (by omega) (by omega)
/-- A snapshot is put. -/
theorem Sw.put (w : Sw t f R K F S d c E h) {x : List UInt8} (hx : x.length ≤ 59992) (hE : E < 4611686018427387904) (hR : ((tot F + 16 + x.length : Nat) : Int) ≤ R) :
    (sputR t S d f c E x = 0 ∧ Sw t f R (K + 2) (upd F (f + (1 - c)) (frameN t (snapN (E + 1) x))) (sputS t S d f c E x) (sputD t S d f c E x) (1 - c) (E + 1) x ∧ (sputD t S d f c E x).fused = d.fused) ∨
    (sputR t S d f c E x = 10 ∧ d.fused = true ∧ (sputD t S d f c E x).Ok (K + 2)) := by
  obtain ⟨e1, e2, e3⟩ := w.go hx hE
  have hp := w.pos
  have hfl := frameN_len t (snapN (E + 1) x)
  have hsl := snapN_len (E + 1) x
  rcases w.rest.write (o := f + (1 - c)) (by have := hp.f3; omega) (b := frameN t (snapN (E + 1) x)) (by omega) (by omega) with ⟨a1, a2, a3⟩ | ⟨a1, a2, _⟩
  · left
    rw [e1, e2, e3, if_pos a1]
    refine ⟨a1, ⟨a2, ⟨hp.file, rfl, rfl, hp.f3, by omega, by omega⟩, rfl, w.down, w.si.full hE hx⟩, a3⟩
  · right
    rw [e1, e3]
    exact ⟨a1, a2, wrD_Ok w.rest.gro.ok (by have := hp.f3; omega) _⟩
/-- With any fuse, and a crash behind. -/
theorem Sw.crash (w : Sw t f R K F S d c E h) {x : List UInt8} (hx : x.length ≤ 59992) (hE : E < 4611686018427387904) (hR : ((tot F + 16 + x.length : Nat) : Int) ≤ R) (keep : Int) :
    (sputD t S d f c E x).Ok (K + 2) ∧ ∃ F', Rest R (K + 2) F' (crashD (sputD t S d f c E x) keep) ∧ (F' = upd F (f + (1 - c)) (frameN t (snapN (E + 1) x)) ∨ (¬ sputR t S d f c E x = 0 ∧ (F' = F ∨ ∃ p, p <+: frameN t (snapN (E + 1) x) ∧ p.length < (frameN t (snapN (E + 1) x)).length ∧ F' = upd F (f + (1 - c)) p))) := by
  obtain ⟨e1, e2, e3⟩ := w.go hx hE
  have hp := w.pos
  have hfl := frameN_len t (snapN (E + 1) x)
  have hsl := snapN_len (E + 1) x
  rw [e1, e3]
  refine ⟨wrD_Ok w.rest.gro.ok (by have := hp.f3; omega) _, ?_⟩
  rcases w.rest.write (o := f + (1 - c)) (by have := hp.f3; omega) (b := frameN t (snapN (E + 1) x)) (by omega) (by omega) with ⟨a1, a2, a3⟩ | ⟨a1, a2, _, a3⟩
  · exact ⟨_, a2.gro.self keep, .inl rfl⟩
  · obtain ⟨F', g1, g2⟩ := a3 keep
    refine ⟨F', g1, ?_⟩
    rcases g2 with g2 | ⟨p, p1, p2⟩
    · exact .inr ⟨by rw [a1]; decide, .inl g2⟩
    · rcases Nat.lt_or_ge p.length (frameN t (snapN (E + 1) x)).length with hl | hl
      · exact .inr ⟨by rw [a1]; decide, .inr ⟨p, p1, hl, p2⟩⟩
      · exact .inl (by rw [p2, List.IsPrefix.eq_of_length_le p1 hl])
end
theorem sbytes_v (g G : Nat) (t : Nat → Nat) (S : SltD) (d : DiskD) {x : List UInt8} (h : S.bytes = x) (hx : x.length ≤ 1099511627776) : ACo Try.prog 52 [.bx 0 g 0] (SltT g G t S d) (fun y os' => y = .sl (byA x) ∧ os' = SltT g G t S d) := by
  subst h; exact sbytes_c g G t S d hx
/-- Slots that are opened. -/
theorem sopen_v {k : Nat} (t : Nat → Nat) (ht : ∀ i, i < 256 → t i < 4294967296) (d : DiskD) (hd : d.Ok k) (hk : k ≤ 900000) (G h : Nat) (f : Nat) (hf : f < 3) (hdk : d.dark = false) {S : SltD} (hS : openS t d f = S) (hfi : S.file = (f : Int)) (hdn : S.down = false) : ACo Try.prog 50 [.bx 0 G 0, .sc (tabV t), .sc (.int .i64 (f : Int))] [⟨G, .obj (DiskP d)⟩, ⟨h, .off⟩] (fun y os => y = .tu [.bx 1 (h + 1) 0, .sc (.int .i64 0)] ∧ os = [⟨G, .obj (DiskP d)⟩, ⟨h + 1, .box 119 (fatC [.bx 0 G 0] t [.sc (.int .i64 S.file), .sc (.int .i64 S.counts), .sc (.int .i64 S.epoch), .sl (byA S.bytes), .sc (.bool S.down)])⟩]) := by
  have := sopen_c t ht d hd hk G h f hf hdk
  rw [hS] at this
  rw [hfi, hdn]
  exact this
def bS0 : SltD := ⟨1, 1, 0, [], false⟩
def bD0 : DiskD := newD 500
def bS1 : SltD := sputS byteN bS0 bD0 1 1 0 [97]
def bD1 : DiskD := sputD byteN bS0 bD0 1 1 0 [97]
def bS2 : SltD := sputS byteN bS1 bD1 1 0 1 [98]
def bD2 : DiskD := sputD byteN bS1 bD1 1 0 1 [98]
def bF1 : Files := upd (fun _ => []) 1 (frameN byteN (snapN 1 [97]))
def bF2 : Files := upd bF1 2 (frameN byteN (snapN 2 [98]))
theorem bw0 : Sw byteN 1 500 0 (fun _ => []) bS0 bD0 1 0 [] := ⟨rest_new (by omega), ⟨rfl, rfl, rfl, by omega, by omega, by omega⟩, rfl, rfl, si_new byteN 1 rfl rfl⟩
theorem bw1 : sputR byteN bS0 bD0 1 1 0 [97] = 0 ∧ Sw byteN 1 500 2 bF1 bS1 bD1 0 1 [97] ∧ bD1.fused = false := by
  rcases bw0.put (x := [97]) (by decide) (by omega) (by decide) with h | ⟨_, h, _⟩
  · exact h
  · cases h
theorem bF1_tot : tot bF1 = 17 := by
  have := tot_upd (s := fun _ => []) (i := 1) (by omega) (frameN byteN (snapN 1 [97]))
  rw [frameN_len, snapN_len] at this
  exact this
theorem bw2 : sputR byteN bS1 bD1 1 0 1 [98] = 0 ∧ Sw byteN 1 500 4 bF2 bS2 bD2 1 2 [98] := by
  rcases bw1.2.1.put (x := [98]) (by decide) (by omega) (by rw [bF1_tot]; decide) with h | ⟨_, h, _⟩
  · exact ⟨h.1, h.2.1⟩
  · rw [bw1.2.2] at h; cases h
theorem bopen : openS byteN bD0 1 = bS0 := bw0.si.opened (d := bD0)
theorem bread : ACo Try.prog 25 [.bx 0 1 0, .sc (.int .i64 ((2 : Nat) : Int))] [⟨1, .obj (DiskP bD2)⟩] (fun y os' => y = .tu [.sl (byA (frameN byteN (snapN 2 [98]))), .sc (.int .i64 0)] ∧ os' = [⟨1, .obj (DiskP bD2)⟩]) :=
  read_v bw2.2.rest.gro.ok (by omega) 1 2 (by omega) bw2.2.rest.dark (by rw [bw2.2.rest.n]; rfl)
theorem awake11_c : AC Try.prog 47 [] (fun r => r = .s (.sc (.bool true))) := by
  refine AC.of' 58 6 Try.func47 rfl ?_
  change AW _ _ _ _ [TK.mk 0 .off, TK.mk 0 .off, TK.mk 0 .off, TK.mk 0 .off, TK.mk 0 .off, TK.mk 0 .off]
  refine AW.seq ?_
  refine AW.region ?_
  refine AL.ra ?_
  refine AL.nil ?_
  change AW _ _ _ _ _
  refine AW.seq ?_
  refine AW.region ?_
  refine AL.op rfl (calloZ (od_new 500 (by omega) 0) [0] ?_)
  rintro y os' ⟨rfl, rfl⟩
  refine AL.noZ ?_
  refine AL.rm ?_
  refine AL.r (rd_extract rfl rfl rfl) ?_
  refine AL.r (rd_extract rfl rfl rfl) ?_
  refine AL.ra ?_
  refine AL.ra ?_
  refine AL.nil ?_
  change AW _ _ _ _ _
  refine AW.seq ?_
  refine AW.region ?_
  refine AL.rm ?_
  refine AL.op rfl (AOpB.op (op_call (made_c) rfl (by kernel_rfl) rfl (none) ?_))
  rintro r rfl
  refine AL.no ?_
  refine AL.op rfl (calloZ (sopen_v byteN byte_tab bD0 bw0.rest.gro.ok (by omega) 1 0 1 (by omega) rfl bopen rfl rfl) [0, 1] ?_)
  rintro y os' ⟨rfl, rfl⟩
  refine AL.noZ ?_
  refine AL.rm ?_
  refine AL.r (rd_extract rfl rfl rfl) ?_
  refine AL.r (rd_extract rfl rfl rfl) ?_
  refine AL.ra ?_
  refine AL.ra ?_
  refine AL.nil ?_
  change AW _ _ _ _ _
  refine AW.seq ?_
  refine AW.region ?_
  refine AL.rm ?_
  refine AL.op rfl (AOpB.op (bs_own 2 rfl ap_29 ze_5 rfl rfl rfl ?_))
  refine AL.no ?_
  refine AL.op rfl (op_conv_own rfl by_29 rfl rfl ?_)
  refine AL.no ?_
  refine AL.op rfl (calloZ (lval (sput_c 1 1 byteN byte_tab bS0 bD0 bw0.rest.gro.ok (by omega) bw0.pos [97]) bw1.1) [1, 0] ?_)
  rintro y os' ⟨rfl, rfl⟩
  refine AL.noZ ?_
  refine AL.rm ?_
  refine AL.op rfl (AOpB.op (bs_own 4 rfl ap_29 ze_5 rfl rfl rfl ?_))
  refine AL.no ?_
  refine AL.op rfl (op_conv_own rfl by_29 rfl rfl ?_)
  refine AL.no ?_
  refine AL.op rfl (calloZ (lval (sput_c 1 1 byteN byte_tab bS1 bD1 bw1.2.1.rest.gro.ok (by omega) bw1.2.1.pos [98]) bw2.1) [1, 0] ?_)
  rintro y os' ⟨rfl, rfl⟩
  refine AL.noZ ?_
  refine AL.ra ?_
  refine AL.ra ?_
  refine AL.nil ?_
  change AW _ _ _ _ _
  refine AW.seq ?_
  refine AW.region ?_
  refine AL.rm ?_
  refine AL.op rfl (calloZ (bread) [0] ?_)
  rintro y os' ⟨rfl, rfl⟩
  refine AL.noZ ?_
  refine AL.rm ?_
  refine AL.r (rd_extract rfl rfl rfl) ?_
  refine AL.r (rd_extract rfl rfl rfl) ?_
  refine AL.ra ?_
  refine AL.ra ?_
  refine AL.nil ?_
  change AW _ _ _ _ _
  refine AW.seq ?_
  refine AW.region ?_
  refine AL.rm ?_
  refine AL.r (rd_bin rfl rfl rfl (fun _ => rfl)) ?_
  refine AL.rm ?_
  refine AL.ro (rd_move rfl rfl) ?_
  refine AL.ro (rd_bin rfl rfl rfl (fun _ => rfl)) ?_
  refine AL.r (rd_pick_t rfl rfl rfl) ?_
  refine AL.rm ?_
  refine AL.ro (rd_move rfl rfl) ?_
  refine AL.ro (rd_bin rfl rfl rfl (fun _ => rfl)) ?_
  refine AL.r (rd_pick_t rfl rfl rfl) ?_
  refine AL.rm ?_
  refine AL.ro (rd_move rfl rfl) ?_
  refine AL.on rfl rfl rfl (calloZ (lval (sepoch_c 1 1 byteN bS2 bD2) bw2.2.pos.epoch) [1, 0] ?_)
  rintro y os' ⟨rfl, rfl⟩
  refine AL.noZ ?_
  refine AL.ro (rd_bin rfl rfl rfl (fun _ => rfl)) ?_
  refine AL.r (rd_pick_t rfl rfl rfl) ?_
  refine AL.rm ?_
  refine AL.ro (rd_move rfl rfl) ?_
  refine AL.on rfl rfl rfl (calloZ (sbytes_v 1 1 byteN bS2 bD2 bw2.2.bytes (by decide)) [1, 0] ?_)
  rintro y os' ⟨rfl, rfl⟩
  refine AL.noZ ?_
  refine AL.ro (rd_b2s rfl (by kernel_rfl) (src_s rfl)) ?_
  refine AL.ro (rd_seq rfl rfl rfl) ?_
  refine AL.r (rd_pick_t rfl rfl rfl) ?_
  refine AL.rm ?_
  refine AL.fk (d := 53) rfl (fun h53 => ?_) (fun h53 => ?_)
  ·skip
   refine AL.n ?_
   refine AL.ro (rd_move rfl rfl) ?_
   refine AL.ro (rd_len_sl rfl el_29 rfl) ?_
   refine AL.ro (rd_bin rfl rfl rfl (fun _ => rfl)) ?_
   refine AL.r (rd_pick_t rfl rfl rfl) ?_
   refine AL.ra ?_
   refine AL.nil ?_
   change AW _ _ _ _ _
   refine AW.ret ?_
   change ResA _ _ _ _ _
   refine res1 rfl (ResV.tmp rfl) rfl ?_
   first | (exact (h53 trivial).elim) | (rw [frameN_len, snapN_len]; rfl)
  ·skip
   refine AL.n ?_
   refine AL.rf ?_
   refine AL.rf ?_
   refine AL.rf ?_
   refine AL.r (rd_pick_f rfl rfl rfl) ?_
   refine AL.ra ?_
   refine AL.nil ?_
   change AW _ _ _ _ _
   refine AW.ret ?_
   change ResA _ _ _ _ _
   refine res1 rfl (ResV.tmp rfl) rfl ?_
   first | (exact (h53 trivial).elim) | (rw [frameN_len, snapN_len]; rfl)
end Go.Proofs.Ytgjpeldgjpgbcaa
