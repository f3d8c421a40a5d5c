/- The law LogReads, walked over abstract states. -/
import Derived.Test.YtgjpeldgjpgbcaaLogT
namespace Go.Proofs.Ytgjpeldgjpgbcaa
set_option linter.unusedSimpArgs false
set_option linter.unusedVariables false
set_option maxRecDepth 100000
open Go.RowKit

section
variable {t : Nat → Nat} {R : Int} {K : Nat} {f : Nat} {d : DiskD}
theorem scanN_idem (t : Nat → Nat) (l : List UInt8) : scanN t (l.take (scanN t l).2) = scanN t l := by
  obtain ⟨j, h1, h2, h3, h4⟩ := scanN_split t l
  have := scanN_frames (t := t) fget_nil _ h4
  rw [List.append_nil, ← h3] at this
  rw [scanN_take, this]
theorem Aw.addR {rs : List (List UInt8)} {s : Nat} {L : LogD} (h : Aw t f R K rs s L d) (hf : f < 4) {b : List UInt8} (hb : b.length ≤ 60000) (hR : (((rs.flatMap (frameN t)).length + 8 + b.length : Nat) : Int) ≤ R) : Go.Proofs.Ytgjpeldgjpgbcaa.addR t L d b = 0 := by
  have hdn := h.li.live h.dark
  have e : ¬ (L.down || d.dark) = true := by rw [h.dark, hdn]; decide
  have h60 : ¬ 60000 < b.length := by omega
  have ht1 := one_tot hf ((rs.take s).flatMap (frameN t))
  have ht2 := one_tot hf ((rs.drop s).flatMap (frameN t))
  have hsp := congrArg List.length (frames_split (t := t) (rs := rs) s)
  rw [List.length_append] at hsp
  obtain ⟨_, _, g3⟩ := h.li.gro.app hf (b := frameN t b) (by rw [ht1, ht2, frameN_len]; omega)
  unfold Go.Proofs.Ytgjpeldgjpgbcaa.addR
  rw [if_neg e, if_neg h60, h.li.file]
  rcases g3 h.dark with ⟨c, _⟩ | ⟨_, c⟩
  · exact c
  · rw [appD_dark h.fused, h.dark] at c; cases c
/-- A log that was opened anew. -/
theorem aw_open {rs : List (List UInt8)} (hr : Rest R K (one f (rs.flatMap (frameN t))) d) (hf : d.fused = false) (hl : ∀ r ∈ rs, r.length ≤ 60000) (ht : (((rs.flatMap (frameN t)).length : Nat) : Int) ≤ R) {e : Nat} (he : e = (rs.flatMap (frameN t)).length) : Aw t f R K rs rs.length ⟨f, false, rs.length, e, 0⟩ d := by
  refine ⟨⟨?_, rfl, (by intro h; cases h), Nat.le_refl _, hl, by simp, by simp [he], ht, by simp, fun _ => rfl⟩, hf, hr.dark⟩
  rw [List.take_length, List.drop_length, List.flatMap_nil, one_nil]
  exact hr.gro
end
section
variable (t : Nat → Nat) (b : List UInt8) (fuse keep : Int) (more : List UInt8)
def rD1 : DiskD := appDi (newD 100000) 0 b
def rD2 : DiskD := syncD (rD1 b)
def rD3 : DiskD := fuseD (rD2 b) fuse
def rD4 : DiskD := openD t (rD3 b fuse) 0
def rD5 : DiskD := crashD (rD4 t b fuse) keep
def rD6 : DiskD := openD t (rD5 t b fuse keep) 0
def rL6 : LogD := ⟨0, false, (scanN t b).1.length, (scanN t b).2, 0⟩
def rL7 : LogD := addL t (rL6 t b) (rD6 t b fuse keep) more
def rD7 : DiskD := addD t (rL6 t b) (rD6 t b fuse keep) more
def rL8 : LogD := lsyncL (rL7 t b fuse keep more) (rD7 t b fuse keep more)
def rD8 : DiskD := lsyncD (rL7 t b fuse keep more) (rD7 t b fuse keep more)
variable {b more} (hb : b.length ≤ 3000) (hm : more.length ≤ 400)
include hb
theorem rD1_gro : Gro 100000 1 (fun _ => []) (one 0 b) (rD1 b) ∧ (rD1 b).fused = false ∧ (rD1 b).dark = false := by
  have h := (gro_new (R := 100000) (by omega)).app (f := 0) (by omega) (b := b) (by simp [tot]; omega)
  exact ⟨h.1, (appD_fused _ _).trans rfl, (appD_dark rfl _ _).trans rfl⟩
theorem rD2_rest : Rest 100000 1 (one 0 b) (rD2 b) ∧ (rD2 b).fused = false ∧ syncR (rD1 b) = 0 := by
  obtain ⟨h1, h2, h3⟩ := rD1_gro hb
  rcases (sync_ok h1.ok).2 h3 with ⟨s1, _, s3⟩ | ⟨_, _, _, s4⟩
  · have hn : (rD1 b).n = one 0 b := by
      funext i
      rcases Nat.lt_or_ge i 4 with hi | hi
      · rw [h1.nn h3 hi]; rfl
      · rw [h1.ok.nbig i hi]
        unfold one upd
        rw [if_neg (by omega)]
    rw [hn, h1.room] at s3
    exact ⟨s3, syncD_fused.trans h2, s1⟩
  · rw [h2] at s4; cases s4
theorem rD5_rest (hfu : fuse < 9223372036854775808) : ∃ p, Rest 100000 2 (one 0 p) (rD5 t b fuse keep) ∧ (rD5 t b fuse keep).fused = false ∧ scanN t p = scanN t b ∧ p.take (scanN t p).2 = (scanN t b).1.flatMap (frameN t) := by
  have h := (rD2_rest hb).1.fuse fuse hfu
  obtain ⟨F', h1, h2, h3⟩ := h.open_crash (t := t) (f := 0) (by omega) keep
  rcases h3 with rfl | rfl
  · exact ⟨b, h1, h2, rfl, scanN_take t b⟩
  · rw [one_self, one_upd] at h1
    exact ⟨_, h1, h2, scanN_idem t b, by rw [scanN_idem, ← scanN_take, List.take_take, Nat.min_self]⟩
theorem rD6_aw (hfu : fuse < 9223372036854775808) : Aw t 0 100000 3 (scanN t b).1 (scanN t b).1.length (rL6 t b) (rD6 t b fuse keep) ∧ openR t (rD5 t b fuse keep) 0 = 0 ∧ scanN t ((rD5 t b fuse keep).n 0) = scanN t b ∧ (rD6 t b fuse keep).n 0 = b.take (scanN t b).2 := by
  obtain ⟨p, h1, h2, h3, h4⟩ := rD5_rest t fuse keep hb hfu
  obtain ⟨a1, a2, a3⟩ := h1.open_calm (t := t) (f := 0) (by omega) h2
  rw [one_self, one_upd, h4] at a2
  obtain ⟨j, b1, b2, b3, b4⟩ := scanN_split t b
  have hle := scanN_le t b
  refine ⟨aw_open a2 a3 b4 (by rw [← b3]; omega) b3, a1, by rw [h1.n, one_self]; exact h3, ?_⟩
  show (openD t (rD5 t b fuse keep) 0).n 0 = _
  rw [a2.n, one_self, scanN_take]
include hm
theorem rm_room : ((((scanN t b).1.flatMap (frameN t)).length + 8 + more.length : Nat) : Int) ≤ 100000 := by
  obtain ⟨j, b1, b2, b3, b4⟩ := scanN_split t b
  have hle := scanN_le t b
  omega
theorem rD7_aw (hfu : fuse < 9223372036854775808) : Aw t 0 100000 4 ((scanN t b).1 ++ [more]) (scanN t b).1.length (rL7 t b fuse keep more) (rD7 t b fuse keep more) ∧ addR t (rL6 t b) (rD6 t b fuse keep) more = 0 := by
  have h := (rD6_aw t fuse keep hb hfu).1
  exact ⟨h.add (by omega) (by omega) (rm_room t hb hm), h.addR (by omega) (by omega) (rm_room t hb hm)⟩
theorem rD8_rest (hfu : fuse < 9223372036854775808) : lsyncR (rL7 t b fuse keep more) (rD7 t b fuse keep more) = 0 ∧ Aw t 0 100000 4 ((scanN t b).1 ++ [more]) ((scanN t b).1 ++ [more]).length (rL8 t b fuse keep more) (rD8 t b fuse keep more) :=
  (rD7_aw t fuse keep hb hm hfu).1.sync (by omega)
theorem rD8_scan (hfu : fuse < 9223372036854775808) : (scanN t ((rD8 t b fuse keep more).n 0)).1 = (scanN t b).1 ++ [more] ∧ openR t (rD8 t b fuse keep more) 0 = 0 := by
  have h := (rD8_rest t fuse keep hb hm hfu).2
  have hn : (rD8 t b fuse keep more).n 0 = ((scanN t b).1 ++ [more]).flatMap (frameN t) := by
    rw [h.li.gro.nn h.dark (by omega), one_self, one_self, frames_split]
  have e := scanN_frames (t := t) fget_nil _ h.li.lens
  rw [List.append_nil] at e
  have hs : scanN t ((rD8 t b fuse keep more).n 0) = ((scanN t b).1 ++ [more], (((scanN t b).1 ++ [more]).flatMap (frameN t)).length) := by rw [hn]; exact e
  refine ⟨by rw [hs], (open_whole h.dark ?_).1⟩
  rw [hs, hn]
  simp
end
theorem rsame_t (a : List (List UInt8)) : AC Try.prog 41 [.sl (rowsA a), .sl (rowsA a)] (fun r => r = .s (.sc (.bool true))) := by
  have := rsame_c a a
  rwa [decide_eq_true rfl] at this
theorem lval {f : FuncId} {args : List AV} {os os1 : List TK} {a b : Int} (h : ACo Try.prog f args os (fun y os' => y = .sc (.int .i64 a) ∧ os' = os1)) (e : a = b) : ACo Try.prog f args os (fun y os' => y = .sc (.int .i64 b) ∧ os' = os1) := e ▸ h
theorem rows_one {rs : List (List UInt8)} : ∀ cs ∈ rowsA rs, cs.length = 1 := fun cs hcs => by
  unfold rowsA at hcs
  obtain ⟨_, _, rfl⟩ := List.mem_map.1 hcs
  rfl
theorem rows_take (rs : List (List UInt8)) (n : Nat) : (rowsA rs).take n = rowsA (rs.take n) := by simp [rowsA, List.map_take]
theorem read_v {k : Nat} {d : DiskD} (h : d.Ok k) (hk : k ≤ 1000000) (G f : Nat) (hf : f < 4) (hd : d.dark = false) {x : List UInt8} (hx : d.n f = x) : ACo Try.prog 25 [.bx 0 G 0, .sc (.int .i64 (f : Int))] [⟨G, .obj (DiskP d)⟩] (fun y os' => y = .tu [.sl (byA x), .sc (.int .i64 0)] ∧ os' = [⟨G, .obj (DiskP d)⟩]) := by
  have := ok_read2 h hk G f hf
  rw [rdB_eq hd, hx] at this
  have e : rdC d = 0 := by unfold rdC; rw [hd]; rfl
  rwa [e] at this
section
variable (t : Nat → Nat) (ht : ∀ i, i < 256 → t i < 4294967296) (b : List UInt8) (fuse keep : Int) (more : List UInt8) (hb : b.length ≤ 3000) (hm : more.length ≤ 400) (hfu : fuse < 9223372036854775808)
include ht hb hfu
theorem ropen6 : ACo Try.prog 38 [.bx 0 1 0, .sc (tabV t), .sc (.int .i64 ((0 : Nat) : Int))] [⟨1, .obj (DiskP (rD5 t b fuse keep))⟩, ⟨0, .off⟩] (fun y os => y = .tu [.bx 1 1 0, .sl (rowsA (scanN t b).1), .sc (.int .i64 0)] ∧ os = [⟨1, .obj (DiskP (rD6 t b fuse keep))⟩, ⟨1, .box 111 (fatC [.bx 0 1 0] t [.sc (.int .i64 (rL6 t b).file), .sc (.bool (rL6 t b).down), .sc (.int .i64 (rL6 t b).records), .sc (.int .i64 (rL6 t b).used), .sc (.int .i64 (rL6 t b).fresh)])⟩]) := by
  obtain ⟨p, h1, _⟩ := rD5_rest t fuse keep hb hfu
  obtain ⟨q1, q2, q3, q4⟩ := rD6_aw t fuse keep hb hfu
  have := lopen_ok t ht (rD5 t b fuse keep) h1.gro.ok (by omega) 1 0 0 (by omega) q2
  rw [q3] at this
  exact this
include hm
theorem ropen9 : ACo Try.prog 38 [.bx 0 1 0, .sc (tabV t), .sc (.int .i64 ((0 : Nat) : Int))] [⟨1, .obj (DiskP (rD8 t b fuse keep more))⟩, ⟨0, .off⟩] (fun y os => ∃ (x : AV) (tk : TK), y = .tu [x, .sl (rowsA ((scanN t b).1 ++ [more])), .sc (.int .i64 0)] ∧ os = [⟨1, .obj (DiskP (openD t (rD8 t b fuse keep more) 0))⟩, tk]) := by
  have h := (rD8_rest t fuse keep hb hm hfu).2
  obtain ⟨q1, q2⟩ := rD8_scan t fuse keep hb hm hfu
  have := lopen_ok t ht (rD8 t b fuse keep more) h.li.gro.ok (by omega) 1 0 0 (by omega) q2
  rw [q1] at this
  exact this.mono fun y os ⟨a, b⟩ => ⟨_, _, a, b⟩
end
theorem scanN_few (t : Nat → Nat) (l : List UInt8) : (scanN t l).1.length ≤ l.length := by
  obtain ⟨j, h1, _, h3, _⟩ := scanN_split t l
  have := frames_len (t := t) (scanN t l).1
  have := scanN_le t l
  omega
theorem rows_last (a : List (List UInt8)) (b : List UInt8) : (rowsA (a ++ [b]))[(rowsA a).length]? = some [.sl (byA b)] := by simp [rowsA]
theorem rows_front (a : List (List UInt8)) (b : List UInt8) : (rowsA (a ++ [b])).take (rowsA a).length = rowsA a := by simp [rowsA]
set_option maxHeartbeats 1000000 in
theorem reads_c (t : Nat → Nat) (ht : ∀ i, i < 256 → t i < 4294967296) (b more : List UInt8) (fuse keep : Int) (hfu : fuse < 9223372036854775808) (hke : -9223372036854775808 ≤ keep ∧ keep < 9223372036854775808) : AC Try.prog 7 [.sc (tabV t), .sl (byA b), .sl (byA more), .sc (.int .i64 fuse), .sc (.int .i64 keep)] (fun r => r = .s (.sc (.bool true))) := by
  refine AC.of' 143 5 Try.func7 rfl ?_
  change AW _ _ _ _ [TK.mk 0 .off, TK.mk 0 .off, TK.mk 0 .off, TK.mk 0 .off, TK.mk 0 .off]
  refine AW.seq ?_
  refine AW.region ?_
  refine AL.op rfl (AOpB.op (op_tabbox 4 rfl rfl rfl ?_))
  refine AL.no ?_
  refine AL.ra ?_
  refine AL.nil ?_
  change AW _ _ _ _ _
  refine AW.seq ?_
  refine AW.seq ?_
  refine AW.region ?_
  refine AL.op rfl (AOpB.op (op_call (awake10_c) rfl (by kernel_rfl) rfl (none) ?_))
  rintro r rfl
  refine AL.no ?_
  refine AL.r (rd_un rfl rfl (fun _ => rfl)) ?_
  refine AL.nil ?_
  change AW _ _ _ _ _
  refine AW.cond_f rfl ?_
  refine AW.skip ?_
  change AW _ _ _ _ _
  refine AW.seq ?_
  refine AW.seq ?_
  refine AW.region ?_
  refine AL.rm ?_
  refine AL.r (rd_len_sl rfl el_29 rfl) ?_
  refine AL.r (rd_bin rfl rfl rfl (fun _ => rfl)) ?_
  refine AL.rm ?_
  refine AL.fk (d := 30) rfl (fun h30 => ?_) (fun h30 => ?_)
  ·skip
   refine AL.n ?_
   refine AL.rf ?_
   refine AL.rf ?_
   refine AL.rf ?_
   refine AL.r (rd_pick_t rfl rfl rfl) ?_
   refine AL.nil ?_
   change AW _ _ _ _ _
   refine AW.cond_t rfl ?_
   refine AW.seq ?_
   refine AW.region ?_
   refine AL.ra ?_
   refine AL.nil ?_
   change AW _ _ _ _ _
   refine AW.ret ?_
   change ResA _ _ _ _ _
   refine res1 rfl (ResV.tmp rfl) rfl ?_
   rfl
  ·skip
   refine AL.n ?_
   refine AL.ro (rd_move rfl rfl) ?_
   refine AL.ro (rd_len_sl rfl el_29 rfl) ?_
   refine AL.ro (rd_bin rfl rfl rfl (fun _ => rfl)) ?_
   refine AL.r (rd_pick_f rfl rfl rfl) ?_
   refine AL.nil ?_
   change AW _ _ _ _ _
   refine AW.cd rfl (fun h34 => ?_) (fun h34 => ?_)
   ·skip
    refine AW.seq ?_
    refine AW.region ?_
    refine AL.ra ?_
    refine AL.nil ?_
    change AW _ _ _ _ _
    refine AW.ret ?_
    change ResA _ _ _ _ _
    refine res1 rfl (ResV.tmp rfl) rfl ?_
    rfl
   ·skip
    refine AW.skip ?_
    change AW _ _ _ _ _
    refine AW.seq ?_
    refine AW.region ?_
    have hb : b.length ≤ 3000 := (by omega)
    have hm : more.length ≤ 400 := (by omega)
    refine AL.op rfl (calloL (od_new 100000 (by omega) 0) [0] ?_)
    rintro y os' ⟨rfl, rfl⟩
    refine AL.noL ?_
    refine AL.rm ?_
    refine AL.r (rd_extract rfl rfl rfl) ?_
    refine AL.r (rd_extract rfl rfl rfl) ?_
    refine AL.ra ?_
    refine AL.ra ?_
    refine AL.nil ?_
    change AW _ _ _ _ _
    refine AW.seq ?_
    refine AW.region ?_
    refine AL.rm ?_
    refine AL.rm ?_
    refine AL.op rfl (calloL (ok_append (k := 0) (d := newD 100000) (okNew (by omega)) (by omega) 1 0 b (by omega)) [0] ?_)
    rintro y os' ⟨rfl, rfl⟩
    refine AL.noL ?_
    refine AL.nil ?_
    change AW _ _ _ _ _
    refine AW.seq ?_
    refine AW.region ?_
    refine AL.rm ?_
    refine AL.op rfl (calloL (ok_sync (d := rD1 b) (rD1_gro hb).1.ok (by omega) 1) [0] ?_)
    rintro y os' ⟨rfl, rfl⟩
    refine AL.noL ?_
    refine AL.nil ?_
    change AW _ _ _ _ _
    refine AW.seq ?_
    refine AW.region ?_
    refine AL.rm ?_
    refine AL.r (rd_tab0 rfl ag_53 rfl rfl) ?_
    refine AL.op rfl (AOpB.op (op_call (rscan_c t ht b (by omega)) rfl (by kernel_rfl) rfl (none) ?_))
    rintro r rfl
    refine AL.no ?_
    refine AL.rm ?_
    refine AL.r (rd_extract rfl rfl rfl) ?_
    refine AL.r (rd_extract rfl rfl rfl) ?_
    refine AL.ra ?_
    refine AL.ra ?_
    refine AL.nil ?_
    change AW _ _ _ _ _
    refine AW.seq ?_
    refine AW.region ?_
    refine AL.rm ?_
    refine AL.rm ?_
    refine AL.op rfl (calloL (od_fuse (rD2 b) 1 fuse) [0] ?_)
    rintro y os' ⟨rfl, rfl⟩
    refine AL.noL ?_
    refine AL.nil ?_
    change AW _ _ _ _ _
    refine AW.seq ?_
    refine AW.region ?_
    refine AL.rm ?_
    refine AL.r (rd_tab0 rfl ag_53 rfl rfl) ?_
    refine AL.op rfl (calloL (lopen_any t ht (rD3 b fuse) ((rD2_rest hb).1.fuse fuse hfu).gro.ok (by omega) 1 0 0 (by omega)) [0, 1] ?_)
    rintro y os' ⟨Y, tk, rfl, rfl⟩
    refine AL.noL ?_
    refine AL.nil ?_
    change AW _ _ _ _ _
    refine AW.seq ?_
    refine AW.region ?_
    refine AL.rm ?_
    refine AL.rm ?_
    refine AL.op rfl (calloL (ok_crash (d := rD4 t b fuse) (openD_Ok ((rD2_rest hb).1.fuse fuse hfu).gro.ok (by omega)) (by omega) 1 keep hke) [0] ?_)
    rintro y os' ⟨rfl, rfl⟩
    refine AL.noL ?_
    refine AL.nil ?_
    change AW _ _ _ _ _
    refine AW.seq ?_
    refine AW.region ?_
    obtain ⟨q1, q2, q3, q4⟩ := rD6_aw t fuse keep hb hfu
    have hle := scanN_le t b
    have hrl := scanN_few t b
    refine AL.rm ?_
    refine AL.r (rd_tab0 rfl ag_53 rfl rfl) ?_
    refine AL.op rfl (calloL (ropen6 t ht b fuse keep hb hfu) [0, 2] ?_)
    rintro y os' ⟨rfl, rfl⟩
    refine AL.noL ?_
    refine AL.rm ?_
    refine AL.r (rd_extract rfl rfl rfl) ?_
    refine AL.r (rd_extract rfl rfl rfl) ?_
    refine AL.r (rd_extract rfl rfl rfl) ?_
    refine AL.ra ?_
    refine AL.ra ?_
    refine AL.ra ?_
    refine AL.nil ?_
    change AW _ _ _ _ _
    refine AW.seq ?_
    refine AW.region ?_
    refine AL.rm ?_
    refine AL.op rfl (calloL (read_v q1.li.gro.ok (by omega) 1 0 (by omega) q1.dark q4) [0] ?_)
    rintro y os' ⟨rfl, rfl⟩
    refine AL.noL ?_
    refine AL.rm ?_
    refine AL.r (rd_extract rfl rfl rfl) ?_
    refine AL.r (rd_extract rfl rfl rfl) ?_
    refine AL.ra ?_
    refine AL.ra ?_
    refine AL.nil ?_
    change AW _ _ _ _ _
    refine AW.seq ?_
    refine AW.seq ?_
    refine AW.drawA (by kernel_rfl) ?_
    refine ADA.r 0 rfl (ARdP.a (rdP_move rfl rfl)) rfl ?_
    refine ADA.r 1 rfl (ARdP.a (rdP_bin rfl rfl rfl (fun _ => rfl))) rfl ?_
    refine ADA.r 2 rfl (ARdP.a (rdP_move rfl rfl)) rfl ?_
    refine ADA.r 3 rfl (ARdP.a (rdP_move rfl rfl)) ⟨_, _, rfl, rfl, rfl⟩ ?_
    refine ADA.r 4 rfl (ARdP.a (rdP_move rfl rfl)) ⟨_, _, rfl, rfl, rfl⟩ ?_
    refine ADA.b ?_
    refine ADB.mv 5 rfl (AOpB.op (op_call (rsame_t (scanN t b).1) rfl (by kernel_rfl) rfl (none) ?_))
    rintro r rfl
    refine ADB.n ?_
    refine ADB.r 6 rfl (rdP_un rfl rfl (fun _ => rfl)) ⟨_, _, rfl, rfl, rfl⟩ ?_
    refine ADB.r 7 rfl (rdP_pick_f rfl rfl rfl) rfl ?_
    refine ADB.r 8 rfl (rdP_move rfl rfl) rfl ?_
    refine ADB.r 9 rfl (rdP_move rfl rfl) ⟨_, _, rfl, rfl, rfl⟩ ?_
    refine ADB.r 11 rfl (rdP_move rfl rfl) ⟨_, _, rfl, rfl, rfl⟩ ?_
    refine ADB.r 12 rfl (rdP_move rfl rfl) ⟨_, _, rfl, rfl, rfl⟩ ?_
    refine ADB.r 13 rfl (rdP_slice_sl rfl el_29 rfl byA_one rfl ⟨_, _, rfl, rfl⟩ (by omega) (by simp only [byA_len]; exact hle)) ⟨_, _, rfl, rfl, rfl⟩ ?_
    refine ADB.all (is := [10, 14]) (by kernel_rfl) (by simp) ?_
    intro i hi
    simp only [List.mem_cons, List.not_mem_nil, or_false] at hi
    rcases hi with rfl | rfl
    ·skip
     refine ⟨_, rfl, ⟨_, _, rfl, rfl, rfl⟩, AOpB.op (ARd.opB (rd_b2s rfl (by kernel_rfl) (src_s rfl)) ?_)⟩
     refine ADB.n ?_
     refine ADB.mv 14 rfl (AOpB.op (ARd.opB (rd_b2s rfl (by kernel_rfl) (src_s rfl)) ?_))
     refine ADB.n ?_
     refine ADB.r 15 rfl (rdP_sne rfl rfl rfl) ⟨_, _, rfl, rfl, rfl⟩ ?_
     refine ADB.r 16 rfl (rdP_pick_f rfl rfl rfl) rfl ?_
     refine ADB.r 17 rfl (rdP_move rfl rfl) rfl ?_
     refine ADB.fk (d := 88) rfl (fun h88 => ?_) (fun h88 => ?_)
     ·skip
      refine ADB.n ?_
      refine ADB.s 18 rfl ⟨_, _, rfl, rfl, rfl⟩ ?_
      refine ADB.s 19 rfl ⟨_, _, rfl, rfl, rfl⟩ ?_
      refine ADB.s 20 rfl ⟨_, _, rfl, rfl, rfl⟩ ?_
      refine ADB.s 21 rfl ⟨_, _, rfl, rfl, rfl⟩ ?_
      refine ADB.r 22 rfl (rdP_pick_t rfl rfl rfl) rfl ?_
      refine ADB.r 23 rfl (rdP_move rfl rfl) rfl ?_
      refine ADB.s 24 rfl ⟨_, _, rfl, rfl, rfl⟩ ?_
      refine ADB.s 25 rfl ⟨_, _, rfl, rfl, rfl⟩ ?_
      refine ADB.s 26 rfl ⟨_, _, rfl, rfl, rfl⟩ ?_
      refine ADB.r 27 rfl (rdP_pick_t rfl rfl rfl) rfl ?_
      refine ADB.done (by kernel_rfl) ?_
      change AW _ _ _ _ _
      refine AW.cond_t rfl ?_
      refine AW.seq ?_
      refine AW.region ?_
      refine AL.ra ?_
      refine AL.nil ?_
      change AW _ _ _ _ _
      refine AW.ret ?_
      change ResA _ _ _ _ _
      refine res1 rfl (ResV.tmp rfl) rfl ?_
      first | (exact (h88 trivial).elim) | (exact (h94 rfl).elim)
     ·skip
      refine ADB.n ?_
      refine ADB.r 18 rfl (rdP_move rfl rfl) ⟨_, _, rfl, rfl, rfl⟩ ?_
      refine ADB.r 20 rfl (rdP_move rfl rfl) ⟨_, _, rfl, rfl, rfl⟩ ?_
      refine ADB.mv 19 rfl (calloL (lused_c (t := t) (L := rL6 t b) (d := rD6 t b fuse keep)) [2, 0] ?_)
      rintro y os' ⟨rfl, rfl⟩
      refine ADB.noL ?_
      refine ADB.r 21 rfl (rdP_bin rfl rfl rfl (fun _ => rfl)) ⟨_, _, rfl, rfl, rfl⟩ ?_
      refine ADB.r 22 rfl (rdP_pick_f rfl rfl rfl) rfl ?_
      refine ADB.r 23 rfl (rdP_move rfl rfl) rfl ?_
      refine ADB.fk (d := 94) rfl (fun h94 => ?_) (fun h94 => ?_)
      ·skip
       refine ADB.n ?_
       refine ADB.s 24 rfl ⟨_, _, rfl, rfl, rfl⟩ ?_
       refine ADB.s 25 rfl ⟨_, _, rfl, rfl, rfl⟩ ?_
       refine ADB.s 26 rfl ⟨_, _, rfl, rfl, rfl⟩ ?_
       refine ADB.r 27 rfl (rdP_pick_t rfl rfl rfl) rfl ?_
       refine ADB.done (by kernel_rfl) ?_
       change AW _ _ _ _ _
       refine AW.cond_t rfl ?_
       refine AW.seq ?_
       refine AW.region ?_
       refine AL.ra ?_
       refine AL.nil ?_
       change AW _ _ _ _ _
       refine AW.ret ?_
       change ResA _ _ _ _ _
       refine res1 rfl (ResV.tmp rfl) rfl ?_
       first | (exact (h88 trivial).elim) | (exact (h94 rfl).elim)
      ·skip
       refine ADB.n ?_
       refine ADB.r 24 rfl (rdP_move rfl rfl) ⟨_, _, rfl, rfl, rfl⟩ ?_
       refine ADB.mv 25 rfl (calloL (lfresh_c (t := t) (L := rL6 t b) (d := rD6 t b fuse keep)) [2, 0] ?_)
       rintro y os' ⟨rfl, rfl⟩
       refine ADB.noL ?_
       refine ADB.r 26 rfl (rdP_bin rfl rfl rfl (fun _ => rfl)) ⟨_, _, rfl, rfl, rfl⟩ ?_
       refine ADB.r 27 rfl (rdP_pick_f rfl rfl rfl) rfl ?_
       refine ADB.done (by kernel_rfl) ?_
       change AW _ _ _ _ _
       refine AW.cond_f rfl ?_
       refine AW.skip ?_
       change AW _ _ _ _ _
       refine AW.seq ?_
       refine AW.region ?_
       refine AL.rm ?_
       refine AL.rm ?_
       refine AL.op rfl (calloL (lval (ladd_c 1 1 t ht (rL6 t b) q1.li.Ok (rD6 t b fuse keep) q1.li.gro.ok (by omega) more) (rD7_aw t fuse keep hb hm hfu).2) [2, 0] ?_)
       rintro y os' ⟨rfl, rfl⟩
       refine AL.noL ?_
       refine AL.rm ?_
       refine AL.op rfl (calloL (lval (lsync_c 1 1 t (rL7 t b fuse keep more) (rD7 t b fuse keep more) (rD7_aw t fuse keep hb hm hfu).1.li.gro.ok (by omega)) (rD8_rest t fuse keep hb hm hfu).1) [2, 0] ?_)
       rintro y os' ⟨rfl, rfl⟩
       refine AL.noL ?_
       refine AL.ra ?_
       refine AL.ra ?_
       refine AL.nil ?_
       change AW _ _ _ _ _
       refine AW.seq ?_
       refine AW.region ?_
       refine AL.rm ?_
       refine AL.r (rd_tab0 rfl ag_53 rfl rfl) ?_
       refine AL.op rfl (calloL (ropen9 t ht b fuse keep more hb hm hfu) [0, 3] ?_)
       rintro y os' ⟨X, tk2, rfl, rfl⟩
       refine AL.noL ?_
       refine AL.rm ?_
       refine AL.r (rd_extract rfl rfl rfl) ?_
       refine AL.r (rd_extract rfl rfl rfl) ?_
       refine AL.r (rd_extract rfl rfl rfl) ?_
       refine AL.ra ?_
       refine AL.ra ?_
       refine AL.ra ?_
       refine AL.nil ?_
       change AW _ _ _ _ _
       refine AW.seq ?_
       refine AW.draw (by kernel_rfl) ?_
       refine AD.r 0 rfl (rd_move rfl rfl) rfl ?_
       refine AD.r 1 rfl (rd_bin rfl rfl rfl (fun _ => rfl)) rfl ?_
       refine AD.r 2 rfl (rd_move rfl rfl) rfl ?_
       refine AD.r 3 rfl (rd_move rfl rfl) ⟨_, _, rfl, rfl, rfl⟩ ?_
       refine AD.r 4 rfl (rd_bin rfl rfl rfl (fun _ => rfl)) ⟨_, _, rfl, rfl, rfl⟩ ?_
       refine AD.r 5 rfl (rd_pick_t rfl rfl rfl) rfl ?_
       refine AD.r 6 rfl (rd_move rfl rfl) rfl ?_
       refine AD.r 7 rfl (rd_move rfl rfl) ⟨_, _, rfl, rfl, rfl⟩ ?_
       refine AD.r 8 rfl (rd_bin rfl rfl rfl (fun _ => rfl)) ⟨_, _, rfl, rfl, rfl⟩ ?_
       refine AD.r 9 rfl (rd_pick_t rfl rfl rfl) rfl ?_
       refine AD.r 10 rfl (rd_move rfl rfl) rfl ?_
       refine AD.r 11 rfl (rd_move rfl rfl) ⟨_, _, rfl, rfl, rfl⟩ ?_
       refine AD.r 12 rfl (rd_len_sl rfl el_56 rfl) ⟨_, _, rfl, rfl, rfl⟩ ?_
       refine AD.r 13 rfl (rd_move rfl rfl) ⟨_, _, rfl, rfl, rfl⟩ ?_
       refine AD.r 14 rfl (rd_len_sl rfl el_56 rfl) ⟨_, _, rfl, rfl, rfl⟩ ?_
       refine AD.r 15 rfl (rd_arith_add rfl rfl rfl (IntWalk.i64_in _ (by simp only [rowsA_len]; omega))) ⟨_, _, rfl, rfl, rfl⟩ ?_
       refine AD.r 16 rfl (rd_bin rfl rfl rfl (fun _ => rfl)) ⟨_, _, rfl, rfl, rfl⟩ ?_
       refine AD.r 17 rfl (rd_pick_t rfl rfl rfl) rfl ?_
       refine AD.r 18 rfl (rd_move rfl rfl) rfl ?_
       refine AD.fk (d := 129) rfl (fun h129 => ?_) (fun h129 => ?_)
       ·skip
        refine AD.n ?_
        refine AD.r 19 rfl (rd_move rfl rfl) ⟨_, _, rfl, rfl, rfl⟩ ?_
        refine AD.r 20 rfl (rd_move rfl rfl) ⟨_, _, rfl, rfl, rfl⟩ ?_
        refine AD.r 21 rfl (rd_len_sl rfl el_56 rfl) ⟨_, _, rfl, rfl, rfl⟩ ?_
        refine AD.r 22 rfl (rd_slice_sl rfl el_56 rfl rows_one rfl ⟨_, _, rfl, rfl⟩ (Nat.zero_le _) (by simp only [rowsA_len, List.length_append]; omega)) ⟨_, _, rfl, rfl, rfl⟩ ?_
        rw [rows_front]
        refine AD.r 23 rfl (rd_move rfl rfl) ⟨_, _, rfl, rfl, rfl⟩ ?_
        refine AD.move 24 rfl (by kernel_rfl) ⟨_, _, rfl, rfl, rfl⟩ (op_call (rsame_t (scanN t b).1) rfl (by kernel_rfl) rfl (none) ?_)
        rintro r rfl
        refine AD.n ?_
        refine AD.r 25 rfl (rd_pick_t rfl rfl rfl) rfl ?_
        refine AD.r 26 rfl (rd_move rfl rfl) rfl ?_
        refine AD.r 27 rfl (rd_move rfl rfl) ⟨_, _, rfl, rfl, rfl⟩ ?_
        refine AD.r 28 rfl (rd_move rfl rfl) ⟨_, _, rfl, rfl, rfl⟩ ?_
        refine AD.r 29 rfl (rd_len_sl rfl el_56 rfl) ⟨_, _, rfl, rfl, rfl⟩ ?_
        refine AD.r 30 rfl (rd_iaddr_sl rfl el_56 rfl rfl rfl (rows_last _ _) rfl) ⟨_, _, rfl, rfl, rfl⟩ ?_
        refine AD.r 31 rfl (rd_load_ep rfl ag_29 rfl rfl) ⟨_, _, rfl, rfl, rfl⟩ ?_
        refine AD.r 32 rfl (rd_b2s rfl (by kernel_rfl) (src_s rfl)) ⟨_, _, rfl, rfl, rfl⟩ ?_
        refine AD.r 33 rfl (rd_move rfl rfl) ⟨_, _, rfl, rfl, rfl⟩ ?_
        refine AD.r 34 rfl (rd_b2s rfl (by kernel_rfl) (src_s rfl)) ⟨_, _, rfl, rfl, rfl⟩ ?_
        refine AD.r 35 rfl (rd_seq rfl rfl rfl) ⟨_, _, rfl, rfl, rfl⟩ ?_
        refine AD.r 36 rfl (rd_pick_t rfl rfl rfl) rfl ?_
        refine AD.r 37 rfl (rd_assign rfl rfl) rfl ?_
        refine AD.done (by kernel_rfl) ?_
        change AW _ _ _ _ _
        refine AW.ret ?_
        change ResA _ _ _ _ _
        refine res1 rfl (ResV.tmp rfl) rfl ?_
        simp
       ·skip
        exact (h129 (by simp only [rowsA_len, List.length_append, List.length_cons, List.length_nil]; omega)).elim
    ·skip
     refine ⟨_, rfl, ⟨_, _, rfl, rfl, rfl⟩, AOpB.op (ARd.opB (rd_b2s rfl (by kernel_rfl) (src_s rfl)) ?_)⟩
     refine ADB.n ?_
     refine ADB.mv 10 rfl (AOpB.op (ARd.opB (rd_b2s rfl (by kernel_rfl) (src_s rfl)) ?_))
     refine ADB.n ?_
     refine ADB.r 15 rfl (rdP_sne rfl rfl rfl) ⟨_, _, rfl, rfl, rfl⟩ ?_
     refine ADB.r 16 rfl (rdP_pick_f rfl rfl rfl) rfl ?_
     refine ADB.r 17 rfl (rdP_move rfl rfl) rfl ?_
     refine ADB.fk (d := 88) rfl (fun h88 => ?_) (fun h88 => ?_)
     ·skip
      refine ADB.n ?_
      refine ADB.s 18 rfl ⟨_, _, rfl, rfl, rfl⟩ ?_
      refine ADB.s 19 rfl ⟨_, _, rfl, rfl, rfl⟩ ?_
      refine ADB.s 20 rfl ⟨_, _, rfl, rfl, rfl⟩ ?_
      refine ADB.s 21 rfl ⟨_, _, rfl, rfl, rfl⟩ ?_
      refine ADB.r 22 rfl (rdP_pick_t rfl rfl rfl) rfl ?_
      refine ADB.r 23 rfl (rdP_move rfl rfl) rfl ?_
      refine ADB.s 24 rfl ⟨_, _, rfl, rfl, rfl⟩ ?_
      refine ADB.s 25 rfl ⟨_, _, rfl, rfl, rfl⟩ ?_
      refine ADB.s 26 rfl ⟨_, _, rfl, rfl, rfl⟩ ?_
      refine ADB.r 27 rfl (rdP_pick_t rfl rfl rfl) rfl ?_
      refine ADB.done (by kernel_rfl) ?_
      change AW _ _ _ _ _
      refine AW.cond_t rfl ?_
      refine AW.seq ?_
      refine AW.region ?_
      refine AL.ra ?_
      refine AL.nil ?_
      change AW _ _ _ _ _
      refine AW.ret ?_
      change ResA _ _ _ _ _
      refine res1 rfl (ResV.tmp rfl) rfl ?_
      first | (exact (h88 trivial).elim) | (exact (h94 rfl).elim)
     ·skip
      refine ADB.n ?_
      refine ADB.r 18 rfl (rdP_move rfl rfl) ⟨_, _, rfl, rfl, rfl⟩ ?_
      refine ADB.r 20 rfl (rdP_move rfl rfl) ⟨_, _, rfl, rfl, rfl⟩ ?_
      refine ADB.mv 19 rfl (calloL (lused_c (t := t) (L := rL6 t b) (d := rD6 t b fuse keep)) [2, 0] ?_)
      rintro y os' ⟨rfl, rfl⟩
      refine ADB.noL ?_
      refine ADB.r 21 rfl (rdP_bin rfl rfl rfl (fun _ => rfl)) ⟨_, _, rfl, rfl, rfl⟩ ?_
      refine ADB.r 22 rfl (rdP_pick_f rfl rfl rfl) rfl ?_
      refine ADB.r 23 rfl (rdP_move rfl rfl) rfl ?_
      refine ADB.fk (d := 94) rfl (fun h94 => ?_) (fun h94 => ?_)
      ·skip
       refine ADB.n ?_
       refine ADB.s 24 rfl ⟨_, _, rfl, rfl, rfl⟩ ?_
       refine ADB.s 25 rfl ⟨_, _, rfl, rfl, rfl⟩ ?_
       refine ADB.s 26 rfl ⟨_, _, rfl, rfl, rfl⟩ ?_
       refine ADB.r 27 rfl (rdP_pick_t rfl rfl rfl) rfl ?_
       refine ADB.done (by kernel_rfl) ?_
       change AW _ _ _ _ _
       refine AW.cond_t rfl ?_
       refine AW.seq ?_
       refine AW.region ?_
       refine AL.ra ?_
       refine AL.nil ?_
       change AW _ _ _ _ _
       refine AW.ret ?_
       change ResA _ _ _ _ _
       refine res1 rfl (ResV.tmp rfl) rfl ?_
       first | (exact (h88 trivial).elim) | (exact (h94 rfl).elim)
      ·skip
       refine ADB.n ?_
       refine ADB.r 24 rfl (rdP_move rfl rfl) ⟨_, _, rfl, rfl, rfl⟩ ?_
       refine ADB.mv 25 rfl (calloL (lfresh_c (t := t) (L := rL6 t b) (d := rD6 t b fuse keep)) [2, 0] ?_)
       rintro y os' ⟨rfl, rfl⟩
       refine ADB.noL ?_
       refine ADB.r 26 rfl (rdP_bin rfl rfl rfl (fun _ => rfl)) ⟨_, _, rfl, rfl, rfl⟩ ?_
       refine ADB.r 27 rfl (rdP_pick_f rfl rfl rfl) rfl ?_
       refine ADB.done (by kernel_rfl) ?_
       change AW _ _ _ _ _
       refine AW.cond_f rfl ?_
       refine AW.skip ?_
       change AW _ _ _ _ _
       refine AW.seq ?_
       refine AW.region ?_
       refine AL.rm ?_
       refine AL.rm ?_
       refine AL.op rfl (calloL (lval (ladd_c 1 1 t ht (rL6 t b) q1.li.Ok (rD6 t b fuse keep) q1.li.gro.ok (by omega) more) (rD7_aw t fuse keep hb hm hfu).2) [2, 0] ?_)
       rintro y os' ⟨rfl, rfl⟩
       refine AL.noL ?_
       refine AL.rm ?_
       refine AL.op rfl (calloL (lval (lsync_c 1 1 t (rL7 t b fuse keep more) (rD7 t b fuse keep more) (rD7_aw t fuse keep hb hm hfu).1.li.gro.ok (by omega)) (rD8_rest t fuse keep hb hm hfu).1) [2, 0] ?_)
       rintro y os' ⟨rfl, rfl⟩
       refine AL.noL ?_
       refine AL.ra ?_
       refine AL.ra ?_
       refine AL.nil ?_
       change AW _ _ _ _ _
       refine AW.seq ?_
       refine AW.region ?_
       refine AL.rm ?_
       refine AL.r (rd_tab0 rfl ag_53 rfl rfl) ?_
       refine AL.op rfl (calloL (ropen9 t ht b fuse keep more hb hm hfu) [0, 3] ?_)
       rintro y os' ⟨X, tk2, rfl, rfl⟩
       refine AL.noL ?_
       refine AL.rm ?_
       refine AL.r (rd_extract rfl rfl rfl) ?_
       refine AL.r (rd_extract rfl rfl rfl) ?_
       refine AL.r (rd_extract rfl rfl rfl) ?_
       refine AL.ra ?_
       refine AL.ra ?_
       refine AL.ra ?_
       refine AL.nil ?_
       change AW _ _ _ _ _
       refine AW.seq ?_
       refine AW.draw (by kernel_rfl) ?_
       refine AD.r 0 rfl (rd_move rfl rfl) rfl ?_
       refine AD.r 1 rfl (rd_bin rfl rfl rfl (fun _ => rfl)) rfl ?_
       refine AD.r 2 rfl (rd_move rfl rfl) rfl ?_
       refine AD.r 3 rfl (rd_move rfl rfl) ⟨_, _, rfl, rfl, rfl⟩ ?_
       refine AD.r 4 rfl (rd_bin rfl rfl rfl (fun _ => rfl)) ⟨_, _, rfl, rfl, rfl⟩ ?_
       refine AD.r 5 rfl (rd_pick_t rfl rfl rfl) rfl ?_
       refine AD.r 6 rfl (rd_move rfl rfl) rfl ?_
       refine AD.r 7 rfl (rd_move rfl rfl) ⟨_, _, rfl, rfl, rfl⟩ ?_
       refine AD.r 8 rfl (rd_bin rfl rfl rfl (fun _ => rfl)) ⟨_, _, rfl, rfl, rfl⟩ ?_
       refine AD.r 9 rfl (rd_pick_t rfl rfl rfl) rfl ?_
       refine AD.r 10 rfl (rd_move rfl rfl) rfl ?_
       refine AD.r 11 rfl (rd_move rfl rfl) ⟨_, _, rfl, rfl, rfl⟩ ?_
       refine AD.r 12 rfl (rd_len_sl rfl el_56 rfl) ⟨_, _, rfl, rfl, rfl⟩ ?_
       refine AD.r 13 rfl (rd_move rfl rfl) ⟨_, _, rfl, rfl, rfl⟩ ?_
       refine AD.r 14 rfl (rd_len_sl rfl el_56 rfl) ⟨_, _, rfl, rfl, rfl⟩ ?_
       refine AD.r 15 rfl (rd_arith_add rfl rfl rfl (IntWalk.i64_in _ (by simp only [rowsA_len]; omega))) ⟨_, _, rfl, rfl, rfl⟩ ?_
       refine AD.r 16 rfl (rd_bin rfl rfl rfl (fun _ => rfl)) ⟨_, _, rfl, rfl, rfl⟩ ?_
       refine AD.r 17 rfl (rd_pick_t rfl rfl rfl) rfl ?_
       refine AD.r 18 rfl (rd_move rfl rfl) rfl ?_
       refine AD.fk (d := 129) rfl (fun h129 => ?_) (fun h129 => ?_)
       ·skip
        refine AD.n ?_
        refine AD.r 19 rfl (rd_move rfl rfl) ⟨_, _, rfl, rfl, rfl⟩ ?_
        refine AD.r 20 rfl (rd_move rfl rfl) ⟨_, _, rfl, rfl, rfl⟩ ?_
        refine AD.r 21 rfl (rd_len_sl rfl el_56 rfl) ⟨_, _, rfl, rfl, rfl⟩ ?_
        refine AD.r 22 rfl (rd_slice_sl rfl el_56 rfl rows_one rfl ⟨_, _, rfl, rfl⟩ (Nat.zero_le _) (by simp only [rowsA_len, List.length_append]; omega)) ⟨_, _, rfl, rfl, rfl⟩ ?_
        rw [rows_front]
        refine AD.r 23 rfl (rd_move rfl rfl) ⟨_, _, rfl, rfl, rfl⟩ ?_
        refine AD.move 24 rfl (by kernel_rfl) ⟨_, _, rfl, rfl, rfl⟩ (op_call (rsame_t (scanN t b).1) rfl (by kernel_rfl) rfl (none) ?_)
        rintro r rfl
        refine AD.n ?_
        refine AD.r 25 rfl (rd_pick_t rfl rfl rfl) rfl ?_
        refine AD.r 26 rfl (rd_move rfl rfl) rfl ?_
        refine AD.r 27 rfl (rd_move rfl rfl) ⟨_, _, rfl, rfl, rfl⟩ ?_
        refine AD.r 28 rfl (rd_move rfl rfl) ⟨_, _, rfl, rfl, rfl⟩ ?_
        refine AD.r 29 rfl (rd_len_sl rfl el_56 rfl) ⟨_, _, rfl, rfl, rfl⟩ ?_
        refine AD.r 30 rfl (rd_iaddr_sl rfl el_56 rfl rfl rfl (rows_last _ _) rfl) ⟨_, _, rfl, rfl, rfl⟩ ?_
        refine AD.r 31 rfl (rd_load_ep rfl ag_29 rfl rfl) ⟨_, _, rfl, rfl, rfl⟩ ?_
        refine AD.r 32 rfl (rd_b2s rfl (by kernel_rfl) (src_s rfl)) ⟨_, _, rfl, rfl, rfl⟩ ?_
        refine AD.r 33 rfl (rd_move rfl rfl) ⟨_, _, rfl, rfl, rfl⟩ ?_
        refine AD.r 34 rfl (rd_b2s rfl (by kernel_rfl) (src_s rfl)) ⟨_, _, rfl, rfl, rfl⟩ ?_
        refine AD.r 35 rfl (rd_seq rfl rfl rfl) ⟨_, _, rfl, rfl, rfl⟩ ?_
        refine AD.r 36 rfl (rd_pick_t rfl rfl rfl) rfl ?_
        refine AD.r 37 rfl (rd_assign rfl rfl) rfl ?_
        refine AD.done (by kernel_rfl) ?_
        change AW _ _ _ _ _
        refine AW.ret ?_
        change ResA _ _ _ _ _
        refine res1 rfl (ResV.tmp rfl) rfl ?_
        simp
       ·skip
        exact (h129 (by simp only [rowsA_len, List.length_append, List.length_cons, List.length_nil]; omega)).elim
end Go.Proofs.Ytgjpeldgjpgbcaa
