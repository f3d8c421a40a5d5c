/- A log on a disk, plain: what its calls leave; contracts for calls with a known answer. No conditions. -/
import Derived.Test.YtgjpeldgjpgbcaaLogQ
namespace Go.Proofs.Ytgjpeldgjpgbcaa
set_option linter.unusedSimpArgs false
set_option linter.unusedVariables false
open Go.RowKit

abbrev one (f : Nat) (x : List UInt8) : Files := upd (fun _ => []) f x
theorem one_self (f : Nat) (x : List UInt8) : one f x f = x := if_pos rfl
theorem one_upd (f : Nat) (x y : List UInt8) : upd (one f x) f y = one f y := by funext i; unfold one upd; split <;> rfl
theorem one_tot {f : Nat} (hf : f < 4) (x : List UInt8) : tot (one f x) = x.length := by
  have := tot_upd (s := fun _ => []) hf x
  have e : tot (fun _ => []) = 0 := rfl
  rw [e] at this
  simpa using this
theorem one_nil (f : Nat) : one f [] = fun _ => [] := by funext i; unfold one upd; split <;> rfl
section
variable {t : Nat → Nat}
structure LI (t : Nat → Nat) (f : Nat) (R : Int) (K : Nat) (rs : List (List UInt8)) (s : Nat) (L : LogD) (d : DiskD) : Prop where
  gro : Gro R K (one f ((rs.take s).flatMap (frameN t))) (one f ((rs.drop s).flatMap (frameN t))) d
  file : L.file = f
  dn : L.down = true → d.dark = true
  sle : s ≤ rs.length
  lens : ∀ r ∈ rs, r.length ≤ 60000
  r : 0 ≤ L.records ∧ L.records ≤ rs.length
  u : 0 ≤ L.used ∧ L.used ≤ (rs.flatMap (frameN t)).length
  tl : (((rs.flatMap (frameN t)).length : Nat) : Int) ≤ R
  fr : 0 ≤ L.fresh ∧ L.fresh ≤ rs.length
  eq : d.dark = false → L.records = rs.length
variable {f : Nat} {R : Int} {K : Nat} {rs : List (List UInt8)} {s : Nat} {L : LogD} {d : DiskD}
theorem frames_le {rs : List (List UInt8)} (h : ∀ r ∈ rs, r.length ≤ 400) : (rs.flatMap (frameN t)).length ≤ 408 * rs.length := by
  induction rs with
  | nil => simp
  | cons x rs ih =>
    have := ih fun r hr => h r (List.mem_cons_of_mem _ hr)
    have := h x List.mem_cons_self
    rw [List.flatMap_cons, List.length_append, frameN_len, List.length_cons]
    omega
theorem frames_split (s : Nat) : (rs.take s).flatMap (frameN t) ++ (rs.drop s).flatMap (frameN t) = rs.flatMap (frameN t) := by rw [← List.flatMap_append, List.take_append_drop]
theorem LI.Ok (h : LI t f R K rs s L d) : L.Ok := by
  have h0 := h.gro.ok.room; have h1 := h.gro.room; have h2 := h.tl; have h3 := frames_len (t := t) rs; have h4 := h.r; have h5 := h.u; have h6 := h.fr
  exact ⟨⟨h.r.1, by omega⟩, ⟨h.u.1, by omega⟩, ⟨h.fr.1, by omega⟩⟩
theorem LI.mono {m : Nat} (h : LI t f R K rs s L d) (hk : K ≤ m) : LI t f R m rs s L d := ⟨h.gro.mono hk, h.file, h.dn, h.sle, h.lens, h.r, h.u, h.tl, h.fr, h.eq⟩
theorem LI.fuse (h : LI t f R K rs s L d) (n : Int) (hn : n < 9223372036854775808) : LI t f R K rs s L (fuseD d n) := ⟨h.gro.fuse n hn, h.file, h.dn, h.sle, h.lens, h.r, h.u, h.tl, h.fr, h.eq⟩
/-- Opened on an empty disk. -/
theorem li_new (t : Nat → Nat) (f : Nat) (hR : 1 ≤ R ∧ R ≤ 200000) : LI t f R 0 [] 0 ⟨f, false, 0, 0, 0⟩ (newD R) := by
  have := gro_new hR
  refine ⟨?_, rfl, (by intro h; cases h), Nat.le_refl _, (by intro r hr; cases hr), ?_, ?_, ?_, ?_, fun _ => rfl⟩
  · simp only [List.take_nil, List.drop_nil, List.flatMap_nil, one_nil]; exact this
  · simp
  · simp
  · simp; omega
  · simp
theorem LI.add (h : LI t f R K rs s L d) (hf : f < 4) {b : List UInt8} (hb : b.length ≤ 60000) (hR : (((rs.flatMap (frameN t)).length + 8 + b.length : Nat) : Int) ≤ R) :
    (d.dark = true → addR t L d b = 10 ∧ LI t f R (K + 1) rs s (addL t L d b) (addD t L d b) ∧ (addD t L d b) = d) ∧ (d.dark = false → LI t f R (K + 1) (rs ++ [b]) s (addL t L d b) (addD t L d b)) := by
  constructor
  · intro hd
    have e : (L.down || d.dark) = true := by rw [hd, Bool.or_true]
    unfold addR addL addD
    rw [if_pos e, if_pos e, if_pos e]
    exact ⟨rfl, ⟨h.gro.mono (by omega), h.file, fun _ => hd, h.sle, h.lens, h.r, h.u, h.tl, h.fr, h.eq⟩, rfl⟩
  · intro hd
    have hdn : L.down = false := by
      cases hx : L.down with
      | false => rfl
      | true => rw [h.dn hx] at hd; cases hd
    have e : ¬ (L.down || d.dark) = true := by rw [hd, hdn]; decide
    have ht1 := one_tot hf ((rs.take s).flatMap (frameN t))
    have ht2 := one_tot hf ((rs.drop s).flatMap (frameN t))
    have hsp := congrArg List.length (frames_split (t := t) (rs := rs) s)
    rw [List.length_append] at hsp
    have hg := h.gro.app hf (b := frameN t b) (by rw [ht1, ht2, frameN_len]; omega)
    obtain ⟨g1, _, g3⟩ := hg
    have g3 := g3 hd
    unfold addL addD
    have h60 : ¬ 60000 < b.length := by omega
    simp only [if_neg e, if_neg h60, h.file]
    have hg1 : Gro R (K + 1) (one f (((rs ++ [b]).take s).flatMap (frameN t))) (one f (((rs ++ [b]).drop s).flatMap (frameN t))) (appDi d f (frameN t b)) := by
      rw [one_self, one_upd] at g1
      have hsl := h.sle
      rw [List.take_append_of_le_length hsl, List.drop_append_of_le_length hsl, List.flatMap_append]
      simpa using g1
    have hl2 : ∀ r ∈ rs ++ [b], r.length ≤ 60000 := fun r hr => by
      rcases List.mem_append.1 hr with hr | hr
      · exact h.lens r hr
      · rw [List.mem_singleton.1 hr]; exact hb
    have hll : (rs ++ [b]).length = rs.length + 1 := by simp
    have hfl2 : ((rs ++ [b]).flatMap (frameN t)).length = (rs.flatMap (frameN t)).length + 8 + b.length := by rw [List.flatMap_append, List.length_append]; simp [frameN_len]; omega
    have h1 := h.r; have h2 := h.u; have h3 := h.fr; have h4 := h.sle
    have hfn := frameN_len t b
    rcases g3 with ⟨c1, c2⟩ | ⟨c1, c2⟩
    · rw [if_pos c1]
      exact ⟨hg1, rfl, (by intro h'; rw [hdn] at h'; cases h'), by omega, hl2, by simp only [hll]; omega, by simp only [hfl2, hfn]; omega, by rw [hfl2]; exact hR, by simp only [hll]; omega, fun _ => by simp only [hll]; have := h.eq hd; omega⟩
    · rw [if_neg (by rw [c1]; decide)]
      exact ⟨hg1, rfl, fun _ => c2, by omega, hl2, by simp only [hll]; omega, by simp only [hfl2]; omega, by rw [hfl2]; exact hR, by simp only [hll]; omega, fun h' => by rw [c2] at h'; cases h'⟩
theorem LI.sync (h : LI t f R K rs s L d) (hf : f < 4) :
    (lsyncR L d = 0 → LI t f R K rs rs.length (lsyncL L d) (lsyncD L d)) ∧ (¬ lsyncR L d = 0 → LI t f R K rs s (lsyncL L d) (lsyncD L d)) := by
  have h1 := h.r; have h2 := h.u; have h3 := h.fr; have h4 := h.sle
  cases hd : d.dark with
  | true =>
    have e : (L.down || d.dark) = true := by rw [hd, Bool.or_true]
    unfold lsyncR lsyncL lsyncD
    rw [if_pos e, if_pos e, if_pos e]
    exact ⟨fun h' => by omega, fun _ => ⟨h.gro, h.file, fun _ => hd, h.sle, h.lens, h.r, h.u, h.tl, h.fr, h.eq⟩⟩
  | false =>
    have hdn : L.down = false := by
      cases hx : L.down with
      | false => rfl
      | true => rw [h.dn hx] at hd; cases hd
    have e : ¬ (L.down || d.dark) = true := by rw [hd, hdn]; decide
    unfold lsyncR lsyncL lsyncD
    rw [if_neg e, if_neg e, if_neg e]
    rcases (sync_ok h.gro.ok).2 hd with ⟨s1, _, s3⟩ | ⟨s1, s2, s3, _⟩
    · rw [if_pos s1]
      refine ⟨fun _ => ?_, fun h' => absurd s1 h'⟩
      have hn : d.n = one f (rs.flatMap (frameN t)) := by
        funext i
        rcases Nat.lt_or_ge i 4 with hi | hi
        · rw [h.gro.nn hd hi]
          unfold one upd
          split
          · exact frames_split s
          · rfl
        · rw [h.gro.ok.nbig i hi]
          unfold one upd
          rw [if_neg (by omega)]
      rw [hn, h.gro.room] at s3
      refine ⟨?_, h.file, (by intro h'; rw [hdn] at h'; cases h'), Nat.le_refl _, h.lens, h1, h2, h.tl, by simp only []; omega, fun _ => h.eq hd⟩
      rw [List.take_length, List.drop_length, List.flatMap_nil, one_nil]
      exact s3.gro
    · rw [if_neg (by rw [s1]; decide)]
      refine ⟨fun h' => by omega, fun _ => ⟨?_, h.file, fun _ => by rw [s2]; exact s3, h.sle, h.lens, h1, h2, h.tl, h3, fun h' => by rw [s2, s3] at h'; cases h'⟩⟩
      rw [s2]
      exact h.gro.burn 1 (by omega) (.inl s3)
/-- A file that is a beginning of rs's frames, with the first s of them whole. -/
def LF (t : Nat → Nat) (rs : List (List UInt8)) (m : Nat) (p : List UInt8) : Prop := ∃ j, p = (rs.take m).flatMap (frameN t) ++ j ∧ fget t j = none
theorem LI.crash (h : LI t f R K rs s L d) (hf : f < 4) (keep : Int) : ∃ p m, s ≤ m ∧ m ≤ rs.length ∧ LF t rs m p ∧ Rest R K (one f p) (crashD d keep) := by
  obtain ⟨r, h1, h2, _⟩ := h.gro.crash keep
  have hl := h.lens
  have e : (fun i => one f ((rs.take s).flatMap (frameN t)) i ++ r i) = one f ((rs.take s).flatMap (frameN t) ++ r f) := by
    funext i
    by_cases hi : i = f
    · subst hi; rw [one_self, one_self]
    · have h0 : ∀ x, one f x i = [] := fun x => if_neg hi
      rw [h0, h0, List.nil_append]
      rcases Nat.lt_or_ge i 4 with hi4 | hi4
      · have := h1 i hi4; rw [h0] at this; exact List.prefix_nil.1 this
      · have a := h2.gro.ok.nbig i hi4
        rw [h2.n] at a
        exact (List.append_eq_nil_iff.1 a).2
  rw [e] at h2
  have hp : (rs.take s).flatMap (frameN t) ++ r f <+: rs.flatMap (frameN t) := by
    rw [← frames_split (t := t) (rs := rs) s, List.prefix_append_right_inj]
    have := h1 f hf
    rwa [one_self] at this
  obtain ⟨m, j, a1, a2, a3⟩ := prefix_frames rs hl _ hp
  refine ⟨_, m, ?_, a1, ⟨j, a2, a3⟩, h2⟩
  exact frames_below hl h.sle a3 (by rw [← a2]; exact List.prefix_append _ _)
theorem LF.scan {m : Nat} {p : List UInt8} (hl : ∀ r ∈ rs, r.length ≤ 60000) (h : LF t rs m p) : (scanN t p).1 = rs.take m ∧ p.take (scanN t p).2 = (rs.take m).flatMap (frameN t) := by
  obtain ⟨j, h1, h2⟩ := h
  have e := scanN_frames h2 (rs.take m) (fun r hr => hl r (List.mem_of_mem_take hr))
  rw [← h1] at e
  have h3 := scanN_take t p
  rw [e] at h3 ⊢
  exact ⟨rfl, h3⟩
theorem LF.clean (t : Nat → Nat) (rs : List (List UInt8)) (m : Nat) : LF t rs m ((rs.take m).flatMap (frameN t)) := ⟨[], by simp, fget_nil⟩
theorem LF.after {m : Nat} {p : List UInt8} {F' : Files} (hl : ∀ r ∈ rs, r.length ≤ 60000) (h : LF t rs m p) (h2 : F' = one f p ∨ F' = upd (one f p) f ((one f p f).take (scanN t (one f p f)).2)) : ∃ p', F' = one f p' ∧ LF t rs m p' := by
  rcases h2 with e | e
  · exact ⟨p, e, h⟩
  · rw [one_self, one_upd, (h.scan hl).2] at e
    exact ⟨_, e, LF.clean t rs m⟩
end
/-! Contracts. -/
section
variable {k : Nat} (t : Nat → Nat) (ht : ∀ i, i < 256 → t i < 4294967296) (d : DiskD) (hd : d.Ok k) (hk : k ≤ 900000) (G h : Nat) (f : Nat) (hf : f < 4)
include ht hd hk hf
theorem lopen_ok (ho : openR t d f = 0) : ACo Try.prog 38 [.bx 0 G 0, .sc (tabV t), .sc (.int .i64 (f : Int))] [⟨G, .obj (DiskP d)⟩, ⟨h, .off⟩] (fun y os => y = .tu [.bx 1 (h + 1) 0, .sl (rowsA (scanN t (d.n f)).1), .sc (.int .i64 0)] ∧ os = [⟨G, .obj (DiskP (openD t d f))⟩, ⟨h + 1, .box 111 (fatC [.bx 0 G 0] t [.sc (.int .i64 (f : Int)), .sc (.bool false), .sc (.int .i64 (((scanN t (d.n f)).1.length : Nat) : Int)), .sc (.int .i64 (((scanN t (d.n f)).2 : Nat) : Int)), .sc (.int .i64 0)])⟩]) :=
  (lopen_c t ht d hd hk G h f hf).mono fun y os hy => by
    rcases hy with ⟨_, h1, h2⟩ | ⟨h1, _⟩
    · exact ⟨h1, h2⟩
    · exact absurd ho h1
theorem lopen_no (ho : ¬ openR t d f = 0) : ACo Try.prog 38 [.bx 0 G 0, .sc (tabV t), .sc (.int .i64 (f : Int))] [⟨G, .obj (DiskP d)⟩, ⟨h, .off⟩] (fun y os => y = .tu [.sc (.pointer none), .sl [], .sc (.int .i64 (openR t d f))] ∧ os = [⟨G, .obj (DiskP (openD t d f))⟩, ⟨h, .off⟩]) :=
  (lopen_c t ht d hd hk G h f hf).mono fun y os hy => by
    rcases hy with ⟨h1, _⟩ | ⟨_, h1, h2⟩
    · exact absurd h1 ho
    · exact ⟨h1, h2⟩
theorem lopen_any : ACo Try.prog 38 [.bx 0 G 0, .sc (tabV t), .sc (.int .i64 (f : Int))] [⟨G, .obj (DiskP d)⟩, ⟨h, .off⟩] (fun y os => ∃ (Y : AV) (tk : TK), y = Y ∧ os = [⟨G, .obj (DiskP (openD t d f))⟩, tk]) :=
  (lopen_c t ht d hd hk G h f hf).mono fun y os hy => by
    rcases hy with ⟨_, h1, h2⟩ | ⟨_, h1, h2⟩
    · exact ⟨_, _, rfl, h2⟩
    · exact ⟨_, _, rfl, h2⟩
end
end Go.Proofs.Ytgjpeldgjpgbcaa
