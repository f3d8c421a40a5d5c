/- The chapter's example of the log, and the law LogNil, walked over abstract states. -/
import Derived.Test.YtgjpeldgjpgbcaaLogR
import Derived.Test.YtgjpeldgjpgbcaaFrmR
namespace Go.Proofs.Ytgjpeldgjpgbcaa
set_option linter.unusedSimpArgs false
set_option linter.unusedVariables false
set_option maxRecDepth 100000
open Go.RowKit

section
variable {g G : Nat} {t : Nat → Nat} {L : LogD} {d : DiskD}
theorem lused_c : ACo Try.prog 44 [.bx 0 g 0] (LogT g G t L d) (fun y os' => y = .sc (.int .i64 L.used) ∧ os' = LogT g G t L d) := by
  refine ACo.of' (st0 := [⟨g, .box 111 (fatC [.bx 1 G 0] t [.sc (.int .i64 L.file), .sc (.bool L.down), .sc (.int .i64 L.records), .sc (.int .i64 L.used), .sc (.int .i64 L.fresh)])⟩, ⟨G, .obj (DiskP d)⟩]) 8 0 Try.func44 rfl 2 ?_
  refine AW.seq ?_
  refine AW.region ?_
  refine AL.ra ?_
  refine AL.nil ?_
  change AW _ _ _ _ _
  refine AW.seq ?_
  refine AW.seq ?_
  refine AW.region ?_
  refine AL.rm ?_
  refine AL.r (rd_peq_bx rfl pt_55 rfl rfl rfl) ?_
  refine AL.nil ?_
  change AW _ _ _ _ _
  refine AW.cond_f rfl ?_
  refine AW.skip ?_
  change AW _ _ _ _ _
  refine AW.seq ?_
  refine AW.region ?_
  refine AL.rm ?_
  refine AL.r (rd_nilc_bx rfl rfl rfl) ?_
  refine AL.r (rd_faddr_bx rfl fo_111_5 rfl rfl ⟨_, _, rfl⟩) ?_
  refine AL.r (rd_load_bx rfl ag_3 rfl rfl (fat_post 3 rfl rfl)) ?_
  refine AL.ra ?_
  refine AL.nil ?_
  change AW _ _ _ _ _
  refine AW.ret ?_
  repeat with_reducible first | refine thenA_ret ?_ | refine inBlockA_ret ?_
  with_reducible first | refine retO_ret ?_ | refine retO_normal ?_
  refine reso1L rfl (ResV.tmp rfl) rfl ?_
  exact ⟨rfl, rfl⟩
theorem lfresh_c : ACo Try.prog 45 [.bx 0 g 0] (LogT g G t L d) (fun y os' => y = .sc (.int .i64 L.fresh) ∧ os' = LogT g G t L d) := by
  refine ACo.of' (st0 := [⟨g, .box 111 (fatC [.bx 1 G 0] t [.sc (.int .i64 L.file), .sc (.bool L.down), .sc (.int .i64 L.records), .sc (.int .i64 L.used), .sc (.int .i64 L.fresh)])⟩, ⟨G, .obj (DiskP d)⟩]) 8 0 Try.func45 rfl 2 ?_
  refine AW.seq ?_
  refine AW.region ?_
  refine AL.ra ?_
  refine AL.nil ?_
  change AW _ _ _ _ _
  refine AW.seq ?_
  refine AW.seq ?_
  refine AW.region ?_
  refine AL.rm ?_
  refine AL.r (rd_peq_bx rfl pt_55 rfl rfl rfl) ?_
  refine AL.nil ?_
  change AW _ _ _ _ _
  refine AW.cond_f rfl ?_
  refine AW.skip ?_
  change AW _ _ _ _ _
  refine AW.seq ?_
  refine AW.region ?_
  refine AL.rm ?_
  refine AL.r (rd_nilc_bx rfl rfl rfl) ?_
  refine AL.r (rd_faddr_bx rfl fo_111_6 rfl rfl ⟨_, _, rfl⟩) ?_
  refine AL.r (rd_load_bx rfl ag_3 rfl rfl (fat_post 4 rfl rfl)) ?_
  refine AL.ra ?_
  refine AL.nil ?_
  change AW _ _ _ _ _
  refine AW.ret ?_
  repeat with_reducible first | refine thenA_ret ?_ | refine inBlockA_ret ?_
  with_reducible first | refine retO_ret ?_ | refine retO_normal ?_
  refine reso1L rfl (ResV.tmp rfl) rfl ?_
  exact ⟨rfl, rfl⟩
theorem lrec_v {v : Int} (h : L.records = v) : ACo Try.prog 42 [.bx 0 g 0] (LogT g G t L d) (fun y os' => y = .sc (.int .i64 v) ∧ os' = LogT g G t L d) := by
  subst h; exact lrecords_c g G t L d
end
-- a log that isn't there
theorem nil_ready : AC Try.prog 78 [.sc (.pointer none)] (fun r => r = .s (.sc (.int .i64 1))) := by
  refine AC.of' 18 0 Try.func78 rfl ?_
  change AW _ _ _ _ []
  refine AW.seq ?_
  refine AW.region ?_
  refine AL.ra ?_
  refine AL.nil ?_
  change AW _ _ _ _ _
  refine AW.seq ?_
  refine AW.seq ?_
  refine AW.region ?_
  refine AL.rm ?_
  refine AL.r (rd_peq_nil rfl pt_55 rfl rfl) ?_
  refine AL.nil ?_
  change AW _ _ _ _ _
  refine AW.cond_t rfl ?_
  refine AW.seq ?_
  refine AW.region ?_
  refine AL.ra ?_
  refine AL.nil ?_
  change AW _ _ _ _ _
  refine AW.ret ?_
  change ResA _ _ _ _ _
  refine res1 rfl (ResV.tmp rfl) rfl ?_
  rfl
theorem nil_ladd (b : List UInt8) : AC Try.prog 39 [.sc (.pointer none), .sl (byA b)] (fun r => r = .s (.sc (.int .i64 1))) := by
  refine AC.of' 61 0 Try.func39 rfl ?_
  change AW _ _ _ _ []
  refine AW.seq ?_
  refine AW.region ?_
  refine AL.ra ?_
  refine AL.nil ?_
  change AW _ _ _ _ _
  refine AW.seq ?_
  refine AW.seq ?_
  refine AW.region ?_
  refine AL.rm ?_
  refine AL.op rfl (AOpB.op (op_call (nil_ready) rfl (by kernel_rfl) rfl (none) ?_))
  rintro r rfl
  refine AL.n ?_
  refine AL.ra ?_
  refine AL.nil ?_
  change AW _ _ _ _ _
  refine AW.seq ?_
  refine AW.region ?_
  refine AL.rm ?_
  refine AL.r (rd_bin rfl rfl rfl (fun _ => rfl)) ?_
  refine AL.nil ?_
  change AW _ _ _ _ _
  refine AW.cond_t rfl ?_
  refine AW.seq ?_
  refine AW.region ?_
  refine AL.rm ?_
  refine AL.ra ?_
  refine AL.nil ?_
  change AW _ _ _ _ _
  refine AW.ret ?_
  change ResA _ _ _ _ _
  refine res1 rfl (ResV.tmp rfl) rfl ?_
  rfl
theorem nil_lsync : AC Try.prog 40 [.sc (.pointer none)] (fun r => r = .s (.sc (.int .i64 1))) := by
  refine AC.of' 22 0 Try.func40 rfl ?_
  change AW _ _ _ _ []
  refine AW.seq ?_
  refine AW.region ?_
  refine AL.ra ?_
  refine AL.nil ?_
  change AW _ _ _ _ _
  refine AW.seq ?_
  refine AW.seq ?_
  refine AW.region ?_
  refine AL.rm ?_
  refine AL.op rfl (AOpB.op (op_call (nil_ready) rfl (by kernel_rfl) rfl (none) ?_))
  rintro r rfl
  refine AL.n ?_
  refine AL.ra ?_
  refine AL.nil ?_
  change AW _ _ _ _ _
  refine AW.seq ?_
  refine AW.region ?_
  refine AL.rm ?_
  refine AL.r (rd_bin rfl rfl rfl (fun _ => rfl)) ?_
  refine AL.nil ?_
  change AW _ _ _ _ _
  refine AW.cond_t rfl ?_
  refine AW.seq ?_
  refine AW.region ?_
  refine AL.rm ?_
  refine AL.ra ?_
  refine AL.nil ?_
  change AW _ _ _ _ _
  refine AW.ret ?_
  change ResA _ _ _ _ _
  refine res1 rfl (ResV.tmp rfl) rfl ?_
  rfl
theorem nil_lempty : AC Try.prog 46 [.sc (.pointer none)] (fun r => r = .s (.sc (.int .i64 1))) := by
  refine AC.of' 32 0 Try.func46 rfl ?_
  change AW _ _ _ _ []
  refine AW.seq ?_
  refine AW.region ?_
  refine AL.ra ?_
  refine AL.nil ?_
  change AW _ _ _ _ _
  refine AW.seq ?_
  refine AW.seq ?_
  refine AW.region ?_
  refine AL.rm ?_
  refine AL.op rfl (AOpB.op (op_call (nil_ready) rfl (by kernel_rfl) rfl (none) ?_))
  rintro r rfl
  refine AL.n ?_
  refine AL.ra ?_
  refine AL.nil ?_
  change AW _ _ _ _ _
  refine AW.seq ?_
  refine AW.region ?_
  refine AL.rm ?_
  refine AL.r (rd_bin rfl rfl rfl (fun _ => rfl)) ?_
  refine AL.nil ?_
  change AW _ _ _ _ _
  refine AW.cond_t rfl ?_
  refine AW.seq ?_
  refine AW.region ?_
  refine AL.rm ?_
  refine AL.ra ?_
  refine AL.nil ?_
  change AW _ _ _ _ _
  refine AW.ret ?_
  change ResA _ _ _ _ _
  refine res1 rfl (ResV.tmp rfl) rfl ?_
  rfl
theorem nil_records : AC Try.prog 42 [.sc (.pointer none)] (fun r => r = .s (.sc (.int .i64 0))) := by
  refine AC.of' 8 0 Try.func42 rfl ?_
  change AW _ _ _ _ []
  refine AW.seq ?_
  refine AW.region ?_
  refine AL.ra ?_
  refine AL.nil ?_
  change AW _ _ _ _ _
  refine AW.seq ?_
  refine AW.seq ?_
  refine AW.region ?_
  refine AL.rm ?_
  refine AL.r (rd_peq_nil rfl pt_55 rfl rfl) ?_
  refine AL.nil ?_
  change AW _ _ _ _ _
  refine AW.cond_t rfl ?_
  refine AW.seq ?_
  refine AW.region ?_
  refine AL.ra ?_
  refine AL.nil ?_
  change AW _ _ _ _ _
  refine AW.ret ?_
  change ResA _ _ _ _ _
  refine res1 rfl (ResV.tmp rfl) rfl ?_
  rfl
theorem nil_used : AC Try.prog 44 [.sc (.pointer none)] (fun r => r = .s (.sc (.int .i64 0))) := by
  refine AC.of' 8 0 Try.func44 rfl ?_
  change AW _ _ _ _ []
  refine AW.seq ?_
  refine AW.region ?_
  refine AL.ra ?_
  refine AL.nil ?_
  change AW _ _ _ _ _
  refine AW.seq ?_
  refine AW.seq ?_
  refine AW.region ?_
  refine AL.rm ?_
  refine AL.r (rd_peq_nil rfl pt_55 rfl rfl) ?_
  refine AL.nil ?_
  change AW _ _ _ _ _
  refine AW.cond_t rfl ?_
  refine AW.seq ?_
  refine AW.region ?_
  refine AL.ra ?_
  refine AL.nil ?_
  change AW _ _ _ _ _
  refine AW.ret ?_
  change ResA _ _ _ _ _
  refine res1 rfl (ResV.tmp rfl) rfl ?_
  rfl
theorem nil_fresh : AC Try.prog 45 [.sc (.pointer none)] (fun r => r = .s (.sc (.int .i64 0))) := by
  refine AC.of' 8 0 Try.func45 rfl ?_
  change AW _ _ _ _ []
  refine AW.seq ?_
  refine AW.region ?_
  refine AL.ra ?_
  refine AL.nil ?_
  change AW _ _ _ _ _
  refine AW.seq ?_
  refine AW.seq ?_
  refine AW.region ?_
  refine AL.rm ?_
  refine AL.r (rd_peq_nil rfl pt_55 rfl rfl) ?_
  refine AL.nil ?_
  change AW _ _ _ _ _
  refine AW.cond_t rfl ?_
  refine AW.seq ?_
  refine AW.region ?_
  refine AL.ra ?_
  refine AL.nil ?_
  change AW _ _ _ _ _
  refine AW.ret ?_
  change ResA _ _ _ _ _
  refine res1 rfl (ResV.tmp rfl) rfl ?_
  rfl
theorem nil_lopen (f : Int) (t : Nat → Nat) : AC Try.prog 38 [.sc (.pointer none), .sc (tabV t), .sc (.int .i64 f)] (fun r => r = .s (.tu [.sc (.pointer none), .sl [], .sc (.int .i64 1)])) := by
  refine AC.of' 51 3 Try.func38 rfl ?_
  change AW _ _ _ _ [TK.mk 0 .off, TK.mk 0 .off, TK.mk 0 .off]
  refine AW.seq ?_
  refine AW.region ?_
  refine AL.op rfl (AOpB.op (op_tabbox 0 rfl rfl rfl ?_))
  refine AL.no ?_
  refine AL.ra ?_
  refine AL.ra ?_
  refine AL.ra ?_
  refine AL.nil ?_
  change AW _ _ _ _ _
  refine AW.seq ?_
  refine AW.region ?_
  refine AL.rm ?_
  refine AL.rm ?_
  refine AL.op rfl (AOpB.op (op_call (nil_read f) rfl (by kernel_rfl) rfl (none) ?_))
  rintro r rfl
  refine AL.no ?_
  refine AL.rm ?_
  refine AL.r (rd_extract rfl rfl rfl) ?_
  refine AL.r (rd_extract rfl rfl rfl) ?_
  refine AL.op rfl (AOpB.op (op_alloc 1 rfl ze_29 rfl ?_))
  refine AL.no ?_
  refine AL.op rfl (op_store_ rfl rfl rfl rfl rfl sz_29 ?_)
  refine AL.no ?_
  refine AL.ra ?_
  refine AL.nil ?_
  change AW _ _ _ _ _
  refine AW.seq ?_
  refine AW.seq ?_
  refine AW.region ?_
  refine AL.rm ?_
  refine AL.r (rd_bin rfl rfl rfl (fun _ => rfl)) ?_
  refine AL.nil ?_
  change AW _ _ _ _ _
  refine AW.cd rfl (fun h21 => ?_) (fun h21 => ?_)
  ·skip
   refine AW.seq ?_
   refine AW.region ?_
   refine AL.rm ?_
   refine AL.ra ?_
   refine AL.ra ?_
   refine AL.ra ?_
   refine AL.nil ?_
   change AW _ _ _ _ _
   refine AW.ret ?_
   change ResA _ _ _ _ _
   refine res3 rfl (ResV.tmp rfl) rfl (ResV.tmp rfl) rfl (ResV.tmp rfl) rfl ?_
   rfl
  ·skip
   refine AW.skip ?_
   change AW _ _ _ _ _
   refine AW.seq ?_
   simp at h21
theorem lopen_out (d : DiskD) {k : Nat} (hd : d.Ok k) (hk : k ≤ 900000) (G h : Nat) (f : Int) (hf : ¬(0 ≤ f ∧ f < 4)) (t : Nat → Nat) : ACo Try.prog 38 [.bx 0 G 0, .sc (tabV t), .sc (.int .i64 f)] [⟨G, .obj (DiskP d)⟩, ⟨h, .off⟩] (fun y os => y = .tu [.sc (.pointer none), .sl [], .sc (.int .i64 2)] ∧ os = [⟨G, .obj (DiskP d)⟩, ⟨h, .off⟩]) := by
  have hr := ok_read hd (by omega) G f
  unfold readRi at hr
  rw [if_neg hf] at hr
  refine ACo.of' (st0 := [⟨G, .obj (DiskP d)⟩, ⟨h, .off⟩, TK.mk 0 .off, TK.mk 0 .off, TK.mk 0 .off]) 51 3 Try.func38 rfl 2 ?_
  refine AW.seq ?_
  refine AW.region ?_
  refine AL.op rfl (AOpB.op (op_tabbox 2 rfl rfl rfl ?_))
  refine AL.no ?_
  refine AL.ra ?_
  refine AL.ra ?_
  refine AL.ra ?_
  refine AL.nil ?_
  change AW _ _ _ _ _
  refine AW.seq ?_
  refine AW.region ?_
  refine AL.rm ?_
  refine AL.rm ?_
  refine AL.op rfl (calloF (hr) [0] ?_)
  rintro y os' ⟨rfl, rfl⟩
  refine AL.noF ?_
  refine AL.rm ?_
  refine AL.r (rd_extract rfl rfl rfl) ?_
  refine AL.r (rd_extract rfl rfl rfl) ?_
  refine AL.op rfl (AOpB.op (op_alloc 3 rfl ze_29 rfl ?_))
  refine AL.no ?_
  refine AL.op rfl (op_store_ rfl rfl rfl rfl rfl sz_29 ?_)
  refine AL.no ?_
  refine AL.ra ?_
  refine AL.nil ?_
  change AW _ _ _ _ _
  refine AW.seq ?_
  refine AW.seq ?_
  refine AW.region ?_
  refine AL.rm ?_
  refine AL.r (rd_bin rfl rfl rfl (fun _ => rfl)) ?_
  refine AL.nil ?_
  change AW _ _ _ _ _
  refine AW.cd rfl (fun h21 => ?_) (fun h21 => ?_)
  ·skip
   refine AW.seq ?_
   refine AW.region ?_
   refine AL.rm ?_
   refine AL.ra ?_
   refine AL.ra ?_
   refine AL.ra ?_
   refine AL.nil ?_
   change AW _ _ _ _ _
   refine AW.ret ?_
   repeat with_reducible first | refine thenA_ret ?_ | refine inBlockA_ret ?_
   with_reducible first | refine retO_ret ?_ | refine retO_normal ?_
   refine reso3F rfl (ResV.tmp rfl) rfl (ResV.tmp rfl) rfl (ResV.tmp rfl) rfl ?_
   exact ⟨rfl, rfl⟩
  ·skip
   refine AW.skip ?_
   change AW _ _ _ _ _
   refine AW.seq ?_
   simp at h21
/-! The chapter's example. -/
section
variable {t : Nat → Nat} {R : Int} {K : Nat} {base came F : Files} {d : DiskD}
theorem open_empty {f : Nat} (hd : d.dark = false) (hn : d.n f = []) : openR t d f = 0 ∧ openD t d f = d ∧ scanN t (d.n f) = ([], 0) := by
  have h2 : ¬ (scanN t (d.n f)).2 < (d.n f).length := by rw [hn]; simp
  obtain ⟨a, b⟩ := open_whole (t := t) hd h2
  refine ⟨a, b, ?_⟩
  rw [hn]
  have := scanN_frames (t := t) fget_nil [] (fun r hr => by cases hr)
  simpa using this
theorem Gro.crash0 (h : Gro R K base came d) {keep : Int} (hk : keep ≤ 0) : Rest R K base (crashD d keep) ∧ (crashD d keep).fused = false := by
  refine ⟨rest_of (h.ok.crash keep) h.room rfl rfl ?_, rfl⟩
  show (settleD d keep).l = _
  rw [h.ok.sl, settleF_stop _ _ hk, h.l]
theorem addD_calm {L : LogD} (hf : d.fused = false) (b : List UInt8) : (addD t L d b).fused = false ∧ (addD t L d b).dark = d.dark := by
  unfold addD
  split
  · exact ⟨hf, rfl⟩
  · split
    · exact ⟨hf, rfl⟩
    · exact ⟨(appD_fused _ _).trans hf, appD_dark hf _ _⟩
theorem lsync_calm {L : LogD} (hok : d.Ok K) (hf : d.fused = false) (hd : d.dark = false) (hl : L.down = false) : lsyncR L d = 0 ∧ (lsyncD L d).fused = false ∧ (lsyncD L d).dark = false := by
  unfold lsyncR lsyncD
  have e : ¬ (L.down || d.dark) = true := by rw [hl, hd]; decide
  rw [if_neg e, if_neg e]
  rcases (sync_ok hok).2 hd with ⟨s1, _, s3⟩ | ⟨_, _, _, s4⟩
  · exact ⟨s1, syncD_fused.trans hf, s3.dark⟩
  · rw [hf] at s4; cases s4
theorem LI.live {f s : Nat} {rs : List (List UInt8)} {L : LogD} (h : LI t f R K rs s L d) (hd : d.dark = false) : L.down = false := by
  cases hx : L.down with
  | false => rfl
  | true => rw [h.dn hx] at hd; cases hd
end
theorem byte_tab : ∀ i, i < 256 → byteN i < 4294967296 := fun _ h => byteN_lt h
/-- A log that nothing disturbs. -/
structure Aw (t : Nat → Nat) (f : Nat) (R : Int) (K : Nat) (rs : List (List UInt8)) (s : Nat) (L : LogD) (d : DiskD) : Prop where
  li : LI t f R K rs s L d
  fused : d.fused = false
  dark : d.dark = false
theorem Aw.add {t : Nat → Nat} {f : Nat} {R : Int} {K : Nat} {rs : List (List UInt8)} {s : Nat} {L : LogD} {d : DiskD} (h : Aw t f R K rs s L d) (hf : f < 4) {b : List UInt8} (hb : b.length ≤ 60000) (hR : (((rs.flatMap (frameN t)).length + 8 + b.length : Nat) : Int) ≤ R) : Aw t f R (K + 1) (rs ++ [b]) s (addL t L d b) (addD t L d b) :=
  ⟨(h.li.add hf hb hR).2 h.dark, (addD_calm h.fused b).1, (addD_calm h.fused b).2.trans h.dark⟩
theorem Aw.sync {t : Nat → Nat} {f : Nat} {R : Int} {K : Nat} {rs : List (List UInt8)} {s : Nat} {L : LogD} {d : DiskD} (h : Aw t f R K rs s L d) (hf : f < 4) : lsyncR L d = 0 ∧ Aw t f R K rs rs.length (lsyncL L d) (lsyncD L d) := by
  obtain ⟨a, b, c⟩ := lsync_calm h.li.gro.ok h.fused h.dark (h.li.live h.dark)
  exact ⟨a, (h.li.sync hf).1 a, b, c⟩
def aL0 : LogD := ⟨2, false, 0, 0, 0⟩
def aD0 : DiskD := newD 500
def aL1 : LogD := addL byteN aL0 aD0 [97]
def aD1 : DiskD := addD byteN aL0 aD0 [97]
def aL2 : LogD := addL byteN aL1 aD1 [98]
def aD2 : DiskD := addD byteN aL1 aD1 [98]
def aL3 : LogD := lsyncL aL2 aD2
def aD3 : DiskD := lsyncD aL2 aD2
def aL4 : LogD := addL byteN aL3 aD3 [99]
def aD4 : DiskD := addD byteN aL3 aD3 [99]
def aD5 : DiskD := crashD aD4 0
theorem fl1 (a : UInt8) : ([[a]].flatMap (frameN byteN)).length = 9 := by simp [frameN_len]
theorem fl2 (a b : UInt8) : ([[a], [b]].flatMap (frameN byteN)).length = 18 := by simp [frameN_len]
theorem aw0 : Aw byteN 2 500 0 [] 0 aL0 aD0 := ⟨li_new byteN 2 (by omega), rfl, rfl⟩
theorem aw1' : Aw byteN 2 500 1 [[97]] 0 aL1 aD1 := aw0.add (by omega) (by decide) (by decide)
theorem aw2' : Aw byteN 2 500 2 [[97], [98]] 0 aL2 aD2 := aw1'.add (by omega) (by decide) (by rw [fl1]; decide)
theorem aw3' : Aw byteN 2 500 2 [[97], [98]] 2 aL3 aD3 := (aw2'.sync (by omega)).2
theorem aw4' : Aw byteN 2 500 3 [[97], [98], [99]] 2 aL4 aD4 := aw3'.add (by omega) (by decide) (by rw [fl2]; decide)
theorem aw5' : Rest 500 3 (one 2 ([[97], [98]].flatMap (frameN byteN))) aD5 := (aw4'.li.gro.crash0 (Int.le_refl _)).1
theorem aw5_s : (scanN byteN (aD5.n 2)).1 = [[97], [98]] := by
  rw [aw5'.n, one_self]
  exact ((LF.clean byteN [[97], [98]] 2).scan (by intro r hr; simp at hr; rcases hr with rfl | rfl <;> simp)).1
theorem lopen0 {k : Nat} (t : Nat → Nat) (ht : ∀ i, i < 256 → t i < 4294967296) (d : DiskD) (hd : d.Ok k) (hk : k ≤ 900000) (G h : Nat) (f : Nat) (hf : f < 4) (h1 : d.dark = false) (h2 : d.n f = []) : ACo Try.prog 38 [.bx 0 G 0, .sc (tabV t), .sc (.int .i64 (f : Int))] [⟨G, .obj (DiskP d)⟩, ⟨h, .off⟩] (fun y os => y = .tu [.bx 1 (h + 1) 0, .sl [], .sc (.int .i64 0)] ∧ os = [⟨G, .obj (DiskP d)⟩, ⟨h + 1, .box 111 (fatC [.bx 0 G 0] t [.sc (.int .i64 (f : Int)), .sc (.bool false), .sc (.int .i64 0), .sc (.int .i64 0), .sc (.int .i64 0)])⟩]) := by
  obtain ⟨a, b, c⟩ := open_empty (t := t) (f := f) h1 h2
  have := lopen_ok t ht d hd hk G h f hf a
  rw [b, c] at this
  exact this
theorem lopen1 {k : Nat} (t : Nat → Nat) (ht : ∀ i, i < 256 → t i < 4294967296) (d : DiskD) (hd : d.Ok k) (hk : k ≤ 900000) (G h : Nat) (f : Nat) (hf : f < 4) {R : Int} {F : Files} (hr : Rest R k F d) (hfu : d.fused = false) {rs : List (List UInt8)} (hs : (scanN t (d.n f)).1 = rs) : ACo Try.prog 38 [.bx 0 G 0, .sc (tabV t), .sc (.int .i64 (f : Int))] [⟨G, .obj (DiskP d)⟩, ⟨h, .off⟩] (fun y os => y = .tu [.bx 1 (h + 1) 0, .sl (rowsA rs), .sc (.int .i64 0)] ∧ os = [⟨G, .obj (DiskP (openD t d f))⟩, ⟨h + 1, .box 111 (fatC [.bx 0 G 0] t [.sc (.int .i64 (f : Int)), .sc (.bool false), .sc (.int .i64 ((rs.length : Nat) : Int)), .sc (.int .i64 (((scanN t (d.n f)).2 : Nat) : Int)), .sc (.int .i64 0)])⟩]) := by
  have := lopen_ok t ht d hd hk G h f hf (hr.open_calm hf hfu).1
  rw [hs] at this
  exact this
theorem awake10_c : AC Try.prog 35 [] (fun r => r = .s (.sc (.bool true))) := by
  refine AC.of' 61 9 Try.func35 rfl ?_
  change AW _ _ _ _ [TK.mk 0 .off, TK.mk 0 .off, TK.mk 0 .off, TK.mk 0 .off, TK.mk 0 .off, TK.mk 0 .off, TK.mk 0 .off, TK.mk 0 .off, TK.mk 0 .off]
  refine AW.seq ?_
  refine AW.region ?_
  refine AL.ra ?_
  refine AL.nil ?_
  change AW _ _ _ _ _
  refine AW.seq ?_
  refine AW.region ?_
  refine AL.op rfl (calloL (od_new 500 (by omega) 0) [0] ?_)
  rintro y os' ⟨rfl, rfl⟩
  refine AL.noL ?_
  refine AL.rm ?_
  refine AL.r (rd_extract rfl rfl rfl) ?_
  refine AL.r (rd_extract rfl rfl rfl) ?_
  refine AL.ra ?_
  refine AL.ra ?_
  refine AL.nil ?_
  change AW _ _ _ _ _
  refine AW.seq ?_
  refine AW.region ?_
  refine AL.rm ?_
  refine AL.op rfl (AOpB.op (op_call (made_c) rfl (by kernel_rfl) rfl (none) ?_))
  rintro r rfl
  refine AL.no ?_
  refine AL.op rfl (calloL (lopen0 byteN byte_tab aD0 aw0.li.gro.ok (by omega) 1 0 2 (by omega) rfl rfl) [0, 1] ?_)
  rintro y os' ⟨rfl, rfl⟩
  refine AL.noL ?_
  refine AL.rm ?_
  refine AL.r (rd_extract rfl rfl rfl) ?_
  refine AL.r (rd_extract rfl rfl rfl) ?_
  refine AL.r (rd_extract rfl rfl rfl) ?_
  refine AL.ra ?_
  refine AL.ra ?_
  refine AL.ra ?_
  refine AL.nil ?_
  change AW _ _ _ _ _
  refine AW.seq ?_
  refine AW.region ?_
  refine AL.rm ?_
  refine AL.op rfl (AOpB.op (bs_own 3 rfl ap_29 ze_5 rfl rfl rfl ?_))
  refine AL.no ?_
  refine AL.op rfl (op_conv_own rfl by_29 rfl rfl ?_)
  refine AL.no ?_
  refine AL.op rfl (calloL (ladd_c 1 1 byteN byte_tab aL0 aw0.li.Ok aD0 aw0.li.gro.ok (by omega) [97]) [1, 0] ?_)
  rintro y os' ⟨rfl, rfl⟩
  refine AL.noL ?_
  refine AL.nil ?_
  change AW _ _ _ _ _
  refine AW.seq ?_
  refine AW.region ?_
  refine AL.rm ?_
  refine AL.op rfl (AOpB.op (bs_own 5 rfl ap_29 ze_5 rfl rfl rfl ?_))
  refine AL.no ?_
  refine AL.op rfl (op_conv_own rfl by_29 rfl rfl ?_)
  refine AL.no ?_
  refine AL.op rfl (calloL (ladd_c 1 1 byteN byte_tab aL1 aw1'.li.Ok aD1 aw1'.li.gro.ok (by omega) [98]) [1, 0] ?_)
  rintro y os' ⟨rfl, rfl⟩
  refine AL.noL ?_
  refine AL.nil ?_
  change AW _ _ _ _ _
  refine AW.seq ?_
  refine AW.region ?_
  refine AL.rm ?_
  refine AL.op rfl (calloL (lsync_c 1 1 byteN aL2 aD2 aw2'.li.gro.ok (by omega)) [1, 0] ?_)
  rintro y os' ⟨rfl, rfl⟩
  refine AL.noL ?_
  refine AL.nil ?_
  change AW _ _ _ _ _
  refine AW.seq ?_
  refine AW.region ?_
  refine AL.rm ?_
  refine AL.op rfl (AOpB.op (bs_own 7 rfl ap_29 ze_5 rfl rfl rfl ?_))
  refine AL.no ?_
  refine AL.op rfl (op_conv_own rfl by_29 rfl rfl ?_)
  refine AL.no ?_
  refine AL.op rfl (calloL (ladd_c 1 1 byteN byte_tab aL3 aw3'.li.Ok aD3 aw3'.li.gro.ok (by omega) [99]) [1, 0] ?_)
  rintro y os' ⟨rfl, rfl⟩
  refine AL.noL ?_
  refine AL.nil ?_
  change AW _ _ _ _ _
  refine AW.seq ?_
  refine AW.region ?_
  refine AL.rm ?_
  refine AL.op rfl (calloL (lrec_v (t := byteN) (L := aL4) (d := aD4) (v := 3) (aw4'.li.eq aw4'.dark)) [1, 0] ?_)
  rintro y os' ⟨rfl, rfl⟩
  refine AL.noL ?_
  refine AL.ra ?_
  refine AL.nil ?_
  change AW _ _ _ _ _
  refine AW.seq ?_
  refine AW.region ?_
  refine AL.rm ?_
  refine AL.op rfl (calloL (ok_crash aw4'.li.gro.ok (by omega) 1 0 (by omega)) [0] ?_)
  rintro y os' ⟨rfl, rfl⟩
  refine AL.noL ?_
  refine AL.nil ?_
  change AW _ _ _ _ _
  refine AW.seq ?_
  refine AW.region ?_
  refine AL.rm ?_
  refine AL.op rfl (AOpB.op (op_call (made_c) rfl (by kernel_rfl) rfl (none) ?_))
  rintro r rfl
  refine AL.no ?_
  refine AL.op rfl (calloL (lopen1 byteN byte_tab aD5 aw5'.gro.ok (by omega) 1 0 2 (by omega) aw5' rfl aw5_s) [0, 2] ?_)
  rintro y os' ⟨rfl, rfl⟩
  refine AL.noL ?_
  refine AL.rm ?_
  refine AL.r (rd_extract rfl rfl rfl) ?_
  refine AL.r (rd_extract rfl rfl rfl) ?_
  refine AL.r (rd_extract rfl rfl rfl) ?_
  refine AL.ra ?_
  refine AL.ra ?_
  refine AL.ra ?_
  refine AL.nil ?_
  change AW _ _ _ _ _
  refine AW.seq ?_
  refine AW.region ?_
  refine AL.rm ?_
  refine AL.r (rd_bin rfl rfl rfl (fun _ => rfl)) ?_
  refine AL.rm ?_
  refine AL.ro (rd_move rfl rfl) ?_
  refine AL.ro (rd_bin rfl rfl rfl (fun _ => rfl)) ?_
  refine AL.r (rd_pick_t rfl rfl rfl) ?_
  refine AL.rm ?_
  refine AL.ro (rd_move rfl rfl) ?_
  refine AL.ro (rd_bin rfl rfl rfl (fun _ => rfl)) ?_
  refine AL.r (rd_pick_t rfl rfl rfl) ?_
  refine AL.rm ?_
  refine AL.ro (rd_move rfl rfl) ?_
  refine AL.ro (rd_len_sl rfl el_56 rfl) ?_
  refine AL.ro (rd_bin rfl rfl rfl (fun _ => rfl)) ?_
  refine AL.r (rd_pick_t rfl rfl rfl) ?_
  refine AL.ra ?_
  refine AL.nil ?_
  change AW _ _ _ _ _
  refine AW.ret ?_
  change ResA _ _ _ _ _
  refine res1 rfl (ResV.tmp rfl) rfl ?_
  first | rfl | simp_all
end Go.Proofs.Ytgjpeldgjpgbcaa
