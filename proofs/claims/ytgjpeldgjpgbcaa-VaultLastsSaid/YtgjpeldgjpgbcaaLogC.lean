/- The log is opened: walked over abstract states. -/
import Derived.Test.YtgjpeldgjpgbcaaLogB
namespace Go.Proofs.Ytgjpeldgjpgbcaa
set_option linter.unusedSimpArgs false
set_option linter.unusedVariables false
set_option maxRecDepth 100000
open Go.RowKit

theorem ze_Log : zeroC Try.prog 111 = some (.pointer none :: (tabL (fun _ => 0) ++ [.int .i64 0, .bool false, .int .i64 0, .int .i64 0, .int .i64 0])) := by kernel_rfl
theorem ze_LogA : (Value.pointer none :: (tabL (fun _ => 0) ++ [.int .i64 0, .bool false, .int .i64 0, .int .i64 0, .int .i64 0])).map AV.sc = fatC [.sc (.pointer none)] (fun _ => 0) [.sc (.int .i64 0), .sc (.bool false), .sc (.int .i64 0), .sc (.int .i64 0), .sc (.int .i64 0)] := by simp [fatC, tabA]
theorem parts_cons {t : List AV} {st : List TK} {i : Nat} {x : Operand} {ps : List (Nat × Operand)} {zs : List AV} {qs : List (Nat × List AV)} (h : (evA t x).cells? = some zs) (hl : liveA st (evA t x) = true) (hp : partsA t st ps = some qs) : partsA t st ((i, x) :: ps) = some ((i, zs) :: qs) := by
  simp only [partsA, h, hp, hl, if_true]
theorem rd_logbuild {o : Oper} {t : List AV} {st : List TK} {x0 x1 x2 x4 x5 : Operand} {k g : Nat} {c : TC} {f : Nat → Nat} {a b e : Int} (ho : o.op = .build 111 #[(0, x0), (1, x1), (2, x2), (4, x4), (5, x5)]) (h0 : evA t x0 = .bx k g 0) (hk : st[k]? = some ⟨g, c⟩) (hc : c.isB = true) (h1 : evA t x1 = .sc (tabV f)) (h2 : evA t x2 = .sc (.int .i64 a)) (h4 : evA t x4 = .sc (.int .i64 b)) (h5 : evA t x5 = .sc (.int .i64 e)) :
    ARd Try.prog o t st (.ag (fatC [.bx k g 0] f [.sc (.int .i64 a), .sc (.bool false), .sc (.int .i64 b), .sc (.int .i64 e), .sc (.int .i64 0)])) := by
  refine rd_build (qs := [(0, [.bx k g 0]), (1, tabA f), (2, [.sc (.int .i64 a)]), (4, [.sc (.int .i64 b)]), (5, [.sc (.int .i64 e)])]) ho pl_111 ze_Log ?_ ?_
  · exact parts_cons (by rw [h0]; rfl) (by rw [h0]; exact live_box hk hc) (parts_cons (by rw [h1]; exact tab_cells f) (by rw [h1]; rfl) (parts_cons (by rw [h2]; rfl) (by rw [h2]; rfl) (parts_cons (by rw [h4]; rfl) (by rw [h4]; rfl) (parts_cons (by rw [h5]; rfl) (by rw [h5]; rfl) rfl))))
  · rw [ze_LogA]
    have e0 : splA (fatC [.sc (.pointer none)] (fun _ => 0) [.sc (.int .i64 0), .sc (.bool false), .sc (.int .i64 0), .sc (.int .i64 0), .sc (.int .i64 0)]) 0 [.bx k g 0] = fatC [.bx k g 0] (fun _ => 0) [.sc (.int .i64 0), .sc (.bool false), .sc (.int .i64 0), .sc (.int .i64 0), .sc (.int .i64 0)] := rfl
    have s1 : ∀ (p y : List AV) (u : Nat → Nat) (n i : Nat) (z : AV), n = p.length + 256 + i → splA (fatC p u y) n [z] = fatC p u (y.set i z) := fun p y u n i z hn => by simp only [splA]; exact fat_set i hn z
    rw [fillA]
    simp only [List.getElem?_cons_zero]
    rw [if_neg (by simp [fat_len]), e0, fillA]
    simp only [List.getElem?_cons_zero, List.getElem?_cons_succ]
    rw [if_neg (by simp [fat_len, tabA_len]), fat_spl (pre := [.bx k g 0]) (n := 1) rfl, fillA]
    simp only [List.getElem?_cons_zero, List.getElem?_cons_succ]
    rw [if_neg (by simp [fat_len]), s1 _ _ _ 257 0 _ rfl, fillA]
    simp only [List.getElem?_cons_zero, List.getElem?_cons_succ]
    rw [if_neg (by simp [fat_len]), s1 _ _ _ 259 2 _ rfl, fillA]
    simp only [List.getElem?_cons_zero, List.getElem?_cons_succ]
    rw [if_neg (by simp [fat_len]), s1 _ _ _ 260 3 _ rfl, fillA]
    rfl
theorem lopen1_c (n : Int) (l : List UInt8) (g : Nat) : ACo Try.prog 77 [.sc (.int .i64 n), .bx 0 g 0] [⟨g, .box 29 [.sl (byA l)]⟩] (fun y os' => y = .sc (.bool (decide (n < (l.length : Int)))) ∧ os' = [⟨g, .box 29 [.sl (byA l)]⟩]) := by
  refine ACo.of' (st0 := [⟨g, .box 29 [.sl (byA l)]⟩]) 6 0 Try.func77 rfl 1 ?_
  refine AW.seq ?_
  refine AW.region ?_
  refine AL.ra ?_
  refine AL.nil ?_
  change AW _ _ _ _ _
  refine AW.seq ?_
  refine AW.region ?_
  refine AL.rm ?_
  refine AL.r (rd_load_bx rfl ag_29 rfl rfl rfl) ?_
  refine AL.r (rd_len_sl rfl el_29 rfl) ?_
  refine AL.r (rd_bin rfl rfl rfl (fun _ => rfl)) ?_
  refine AL.ra ?_
  refine AL.nil ?_
  change AW _ _ _ _ _
  refine AW.ret ?_
  repeat with_reducible first | refine thenA_ret ?_ | refine inBlockA_ret ?_
  with_reducible first | refine retO_ret ?_ | refine retO_normal ?_
  refine reso1S rfl (ResV.tmp rfl) rfl ?_
  exact ⟨by simp [byA_len], rfl⟩

/-- What opening does: the code, and the disk behind it. -/
def openR (t : Nat → Nat) (d : DiskD) (f : Nat) : Int := if d.dark = true then 10 else if (scanN t (d.n f)).2 < (d.n f).length then (if cutR d f (scanN t (d.n f)).2 = 0 then syncR (cutD d f (scanN t (d.n f)).2) else cutR d f (scanN t (d.n f)).2) else 0
def openD (t : Nat → Nat) (d : DiskD) (f : Nat) : DiskD := if d.dark = true then d else if (scanN t (d.n f)).2 < (d.n f).length then (if cutR d f (scanN t (d.n f)).2 = 0 then syncD (cutD d f (scanN t (d.n f)).2) else cutD d f (scanN t (d.n f)).2) else d
def openL (t : Nat → Nat) (d : DiskD) (f : Nat) : LogD := ⟨f, false, (scanN t (d.n f)).1.length, (scanN t (d.n f)).2, 0⟩
def OpenT (h G : Nat) (t : Nat → Nat) (d : DiskD) (f : Nat) (y : AV) (os : List TK) : Prop :=
  (openR t d f = 0 ∧ y = .tu [.bx 1 (h + 1) 0, .sl (rowsA (scanN t (d.n f)).1), .sc (.int .i64 0)] ∧ os = [⟨G, .obj (DiskP (openD t d f))⟩, ⟨h + 1, .box 111 (fatC [.bx 0 G 0] t [.sc (.int .i64 (f : Int)), .sc (.bool false), .sc (.int .i64 (((scanN t (d.n f)).1.length : Nat) : Int)), .sc (.int .i64 (((scanN t (d.n f)).2 : Nat) : Int)), .sc (.int .i64 0)])⟩]) ∨
  (¬ openR t d f = 0 ∧ y = .tu [.sc (.pointer none), .sl [], .sc (.int .i64 (openR t d f))] ∧ os = [⟨G, .obj (DiskP (openD t d f))⟩, ⟨h, .off⟩])
def rdB (d : DiskD) (f : Nat) : List UInt8 := if d.dark = true then [] else d.n f
def rdC (d : DiskD) : Int := if d.dark = true then 10 else 0
section
variable {k : Nat} {d : DiskD} (h : d.Ok k) (hk : k ≤ 1000000) (G : Nat) (f : Nat) (hf : f < 4)
include h hk hf
theorem ok_read2 : ACo Try.prog 25 [.bx 0 G 0, .sc (.int .i64 (f : Int))] [⟨G, .obj (DiskP d)⟩] (fun y os' => y = .tu [.sl (byA (rdB d f)), .sc (.int .i64 (rdC d))] ∧ os' = [⟨G, .obj (DiskP d)⟩]) := by
  have := ok_read h hk G (f : Int)
  unfold readRi at this
  rw [if_pos (by omega), Int.toNat_natCast] at this
  unfold readR at this
  unfold rdB rdC
  split at this <;> (rename_i e; simp only [e, if_true, if_false]; exact this)
theorem ok_cut2 (n : Int) : ACo Try.prog 26 [.bx 0 G 0, .sc (.int .i64 (f : Int)), .sc (.int .i64 n)] [⟨G, .obj (DiskP d)⟩] (fun y os' => y = .sc (.int .i64 (cutR d f n)) ∧ os' = [⟨G, .obj (DiskP (cutD d f n))⟩]) := by
  have := ok_cut h hk G (f : Int) n
  unfold cutRi cutDi at this
  rwa [if_pos (by omega), if_pos (by omega), Int.toNat_natCast] at this
end
theorem rdC_ne {d : DiskD} (h : ¬ rdC d = 0) : d.dark = true := by
  unfold rdC at h
  split at h
  · assumption
  · exact absurd rfl h
theorem rdC_eq {d : DiskD} (h : rdC d = 0) : d.dark = false := by
  unfold rdC at h
  split at h
  · cases h
  · simpa using ‹¬ d.dark = true›
theorem rdB_eq {d : DiskD} (h : d.dark = false) (f : Nat) : rdB d f = d.n f := by unfold rdB; rw [h]; rfl
theorem open_dark {t : Nat → Nat} {d : DiskD} {f : Nat} (h : d.dark = true) : openR t d f = 10 ∧ openD t d f = d := by unfold openR openD; rw [h]; exact ⟨rfl, rfl⟩
theorem open_whole {t : Nat → Nat} {d : DiskD} {f : Nat} (h : d.dark = false) (h2 : ¬ (scanN t (d.n f)).2 < (d.n f).length) : openR t d f = 0 ∧ openD t d f = d := by unfold openR openD; simp only [h, h2, if_false, Bool.false_eq_true, and_self]
theorem open_cut {t : Nat → Nat} {d : DiskD} {f : Nat} (h : d.dark = false) (h2 : (scanN t (d.n f)).2 < (d.n f).length) (h3 : ¬ cutR d f (scanN t (d.n f)).2 = 0) : openR t d f = cutR d f (scanN t (d.n f)).2 ∧ openD t d f = cutD d f (scanN t (d.n f)).2 := by unfold openR openD; simp only [h, h2, h3, if_true, if_false, Bool.false_eq_true, and_self]
theorem open_sync {t : Nat → Nat} {d : DiskD} {f : Nat} (h : d.dark = false) (h2 : (scanN t (d.n f)).2 < (d.n f).length) (h3 : cutR d f (scanN t (d.n f)).2 = 0) : openR t d f = syncR (cutD d f (scanN t (d.n f)).2) ∧ openD t d f = syncD (cutD d f (scanN t (d.n f)).2) := by unfold openR openD; simp only [h, h2, h3, if_true, if_false, Bool.false_eq_true, and_self]
theorem rdB_len {k : Nat} {d : DiskD} (h : d.Ok k) (f : Nat) : (rdB d f).length ≤ 1099511627776 := by
  have := h.nlen f
  unfold rdB
  split
  · simp
  · omega
theorem cutD_Ok {k : Nat} {d : DiskD} (h : d.Ok k) {f : Nat} (hf : f < 4) (n : Int) : (cutD d f n).Ok (k + 1) := by
  have := h.cut (f : Int) n
  unfold cutDi at this
  rwa [if_pos (by omega), Int.toNat_natCast] at this
theorem lopen_c {k : Nat} (t : Nat → Nat) (ht : ∀ i, i < 256 → t i < 4294967296) (d : DiskD) (hd : d.Ok k) (hk : k ≤ 900000) (G h : Nat) (f : Nat) (hf : f < 4) : ACo Try.prog 38 [.bx 0 G 0, .sc (tabV t), .sc (.int .i64 (f : Int))] [⟨G, .obj (DiskP d)⟩, ⟨h, .off⟩] (OpenT h G t d f) := by
  have hnl := hd.nlen f
  refine ACo.of' (st0 := [⟨G, .obj (DiskP d)⟩, ⟨h, .off⟩, TK.mk 0 .off, TK.mk 0 .off, TK.mk 0 .off]) 51 3 Try.func38 rfl 2 ?_
  refine AW.seq ?_
  refine AW.region ?_
  refine AL.op rfl (AOpB.op (op_tabbox 2 rfl rfl rfl ?_))
  refine AL.no ?_
  refine AL.ra ?_
  refine AL.ra ?_
  refine AL.ra ?_
  refine AL.nil ?_
  change AW _ _ _ _ _
  refine AW.seq ?_
  refine AW.region ?_
  refine AL.rm ?_
  refine AL.rm ?_
  refine AL.op rfl (calloF (ok_read2 hd (by omega) G f hf) [0] ?_)
  rintro y os' ⟨rfl, rfl⟩
  refine AL.noF ?_
  refine AL.rm ?_
  refine AL.r (rd_extract rfl rfl rfl) ?_
  refine AL.r (rd_extract rfl rfl rfl) ?_
  refine AL.op rfl (AOpB.op (op_alloc 3 rfl ze_29 rfl ?_))
  refine AL.no ?_
  refine AL.op rfl (op_store_ rfl rfl rfl rfl rfl sz_29 ?_)
  refine AL.no ?_
  refine AL.ra ?_
  refine AL.nil ?_
  change AW _ _ _ _ _
  refine AW.seq ?_
  refine AW.seq ?_
  refine AW.region ?_
  refine AL.rm ?_
  refine AL.r (rd_bin rfl rfl rfl (fun _ => rfl)) ?_
  refine AL.nil ?_
  change AW _ _ _ _ _
  refine AW.cd rfl (fun h21 => ?_) (fun h21 => ?_)
  ·skip
   refine AW.seq ?_
   refine AW.region ?_
   refine AL.rm ?_
   refine AL.ra ?_
   refine AL.ra ?_
   refine AL.ra ?_
   refine AL.nil ?_
   change AW _ _ _ _ _
   refine AW.ret ?_
   repeat with_reducible first | refine thenA_ret ?_ | refine inBlockA_ret ?_
   with_reducible first | refine retO_ret ?_ | refine retO_normal ?_
   refine reso3F rfl (ResV.tmp rfl) rfl (ResV.tmp rfl) rfl (ResV.tmp rfl) rfl ?_
   have hdk := rdC_ne h21
   have e := open_dark (t := t) (f := f) hdk
   exact .inr ⟨by rw [e.1]; decide, by rw [e.1]; simp [rdC, hdk], by rw [e.2]; rfl⟩
  ·skip
   refine AW.skip ?_
   change AW _ _ _ _ _
   refine AW.seq ?_
   refine AW.region ?_
   refine AL.r (rd_load_bx rfl ag_29 rfl rfl rfl) ?_
   refine AL.r (rd_tab0 rfl ag_53 rfl rfl) ?_
   refine AL.op rfl (AOpB.op (op_call (fscan_c t ht (rdB d f) (rdB_len hd f)) rfl (by kernel_rfl) rfl (none) ?_))
   rintro r rfl
   refine AL.no ?_
   refine AL.rm ?_
   refine AL.r (rd_extract rfl rfl rfl) ?_
   refine AL.r (rd_extract rfl rfl rfl) ?_
   refine AL.ra ?_
   refine AL.ra ?_
   refine AL.nil ?_
   change AW _ _ _ _ _
   refine AW.seq ?_
   refine AW.region ?_
   refine AL.r (rd_mkfn rfl) ?_
   refine AL.ra ?_
   refine AL.nil ?_
   change AW _ _ _ _ _
   refine AW.seq ?_
   refine AW.seq ?_
   refine AW.region ?_
   refine AL.rm ?_
   refine AL.rm ?_
   refine AL.op rfl (centrF (lopen1_c _ (rdB d f) 1) (ent_fn rfl rfl (by kernel_rfl)) [3] ?_)
   rintro y os' ⟨rfl, rfl⟩
   refine AL.noF ?_
   refine AL.nil ?_
   change AW _ _ _ _ _
   refine AW.cd rfl (fun h32 => ?_) (fun h32 => ?_)
   ·skip
    refine AW.seq ?_
    refine AW.seq ?_
    refine AW.region ?_
    have hdk := rdC_eq h21
    have hB := rdB_eq hdk f; rw [hB] at h32 ⊢; have h32' : (scanN t (d.n f)).2 < (d.n f).length := (by omega)
    refine AL.rm ?_
    refine AL.rm ?_
    refine AL.rm ?_
    refine AL.op rfl (calloF (ok_cut2 hd (by omega) G f hf _) [0] ?_)
    rintro y os' ⟨rfl, rfl⟩
    refine AL.noF ?_
    refine AL.ra ?_
    refine AL.nil ?_
    change AW _ _ _ _ _
    refine AW.seq ?_
    refine AW.region ?_
    refine AL.rm ?_
    refine AL.r (rd_bin rfl rfl rfl (fun _ => rfl)) ?_
    refine AL.nil ?_
    change AW _ _ _ _ _
    refine AW.cd rfl (fun h38 => ?_) (fun h38 => ?_)
    ·skip
     refine AW.seq ?_
     refine AW.region ?_
     refine AL.rm ?_
     refine AL.ra ?_
     refine AL.ra ?_
     refine AL.ra ?_
     refine AL.nil ?_
     change AW _ _ _ _ _
     refine AW.ret ?_
     repeat with_reducible first | refine thenA_ret ?_ | refine inBlockA_ret ?_
     with_reducible first | refine retO_ret ?_ | refine retO_normal ?_
     refine reso3F rfl (ResV.tmp rfl) rfl (ResV.tmp rfl) rfl (ResV.tmp rfl) rfl ?_
     have e := open_cut hdk h32' h38
     exact .inr ⟨by rw [e.1]; exact h38, by rw [e.1], by rw [e.2]; rfl⟩
    ·skip
     refine AW.skip ?_
     change AW _ _ _ _ _
     refine AW.seq ?_
     refine AW.region ?_
     have e := open_sync hdk h32' h38
     refine AL.rm ?_
     refine AL.op rfl (calloF (ok_sync (cutD_Ok hd hf _) (by omega) G) [0] ?_)
     rintro y os' ⟨rfl, rfl⟩
     refine AL.noF ?_
     refine AL.ra ?_
     refine AL.nil ?_
     change AW _ _ _ _ _
     refine AW.seq ?_
     refine AW.region ?_
     refine AL.rm ?_
     refine AL.r (rd_bin rfl rfl rfl (fun _ => rfl)) ?_
     refine AL.nil ?_
     change AW _ _ _ _ _
     refine AW.cd rfl (fun h43 => ?_) (fun h43 => ?_)
     ·skip
      refine AW.seq ?_
      refine AW.region ?_
      refine AL.rm ?_
      refine AL.ra ?_
      refine AL.ra ?_
      refine AL.ra ?_
      refine AL.nil ?_
      change AW _ _ _ _ _
      refine AW.ret ?_
      repeat with_reducible first | refine thenA_ret ?_ | refine inBlockA_ret ?_
      with_reducible first | refine retO_ret ?_ | refine retO_normal ?_
      refine reso3F rfl (ResV.tmp rfl) rfl (ResV.tmp rfl) rfl (ResV.tmp rfl) rfl ?_
      exact .inr ⟨by rw [e.1]; exact h43, by rw [e.1], by rw [e.2]; rfl⟩
     ·skip
      refine AW.skip ?_
      change AW _ _ _ _ _
      refine AW.seq ?_
      refine AW.region ?_
      refine AL.rm ?_
      refine AL.r (rd_tab0 rfl ag_53 rfl rfl) ?_
      refine AL.rm ?_
      refine AL.rm ?_
      refine AL.r (rd_len_sl rfl el_56 rfl) ?_
      refine AL.rm ?_
      refine AL.r (rd_logbuild rfl rfl rfl rfl rfl rfl rfl rfl) ?_
      refine AL.op rfl (AOpB.op (op_box 1 rfl rfl rfl rfl rfl ?_))
      refine AL.no ?_
      refine AL.rm ?_
      refine AL.ra ?_
      refine AL.ra ?_
      refine AL.ra ?_
      refine AL.nil ?_
      change AW _ _ _ _ _
      refine AW.ret ?_
      repeat with_reducible first | refine thenA_ret ?_ | refine inBlockA_ret ?_
      with_reducible first | refine retO_ret ?_ | refine retO_normal ?_
      refine reso3F rfl (ResV.tmp rfl) (resO_bx (by decide) rfl) (ResV.tmp rfl) rfl (ResV.tmp rfl) rfl ?_
      first | (have hdk := rdC_eq h21; have e : openR t d f = 0 ∧ openD t d f = syncD (cutD d f (scanN t (d.n f)).2) := ⟨e.1.trans h43, e.2⟩; exact .inl ⟨e.1, rfl, by rw [e.2, rowsA_len]; rfl⟩) | (have hdk := rdC_eq h21; have hB := rdB_eq hdk f; rw [hB] at h32 ⊢; have e := open_whole hdk (f := f) (t := t) (by omega); exact .inl ⟨e.1, rfl, by rw [e.2, rowsA_len]; rfl⟩)
   ·skip
    refine AW.skip ?_
    change AW _ _ _ _ _
    refine AW.seq ?_
    refine AW.region ?_
    refine AL.rm ?_
    refine AL.r (rd_tab0 rfl ag_53 rfl rfl) ?_
    refine AL.rm ?_
    refine AL.rm ?_
    refine AL.r (rd_len_sl rfl el_56 rfl) ?_
    refine AL.rm ?_
    refine AL.r (rd_logbuild rfl rfl rfl rfl rfl rfl rfl rfl) ?_
    refine AL.op rfl (AOpB.op (op_box 1 rfl rfl rfl rfl rfl ?_))
    refine AL.no ?_
    refine AL.rm ?_
    refine AL.ra ?_
    refine AL.ra ?_
    refine AL.ra ?_
    refine AL.nil ?_
    change AW _ _ _ _ _
    refine AW.ret ?_
    repeat with_reducible first | refine thenA_ret ?_ | refine inBlockA_ret ?_
    with_reducible first | refine retO_ret ?_ | refine retO_normal ?_
    refine reso3F rfl (ResV.tmp rfl) (resO_bx (by decide) rfl) (ResV.tmp rfl) rfl (ResV.tmp rfl) rfl ?_
    first | (have hdk := rdC_eq h21; have e : openR t d f = 0 ∧ openD t d f = syncD (cutD d f (scanN t (d.n f)).2) := ⟨e.1.trans h43, e.2⟩; exact .inl ⟨e.1, rfl, by rw [e.2, rowsA_len]; rfl⟩) | (have hdk := rdC_eq h21; have hB := rdB_eq hdk f; rw [hB] at h32 ⊢; have e := open_whole hdk (f := f) (t := t) (by omega); exact .inl ⟨e.1, rfl, by rw [e.2, rowsA_len]; rfl⟩)
end Go.Proofs.Ytgjpeldgjpgbcaa
