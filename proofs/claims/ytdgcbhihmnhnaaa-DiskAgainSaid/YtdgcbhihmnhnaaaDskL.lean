/- The law DiskLasts: calls as data, and what is plain of them. -/
import Derived.Test.YtdgcbhihmnhnaaaDskN
namespace Go.Proofs.Ytdgcbhihmnhnaaa
set_option linter.unusedSimpArgs false
set_option linter.unusedVariables false
set_option maxRecDepth 100000
open Go.RowKit

structure Act9 where
  kind : Int
  file : Int
  n : Int
  b : List UInt8
def Act9.cs (x : Act9) : List AV := [.sc (.int .i64 x.kind), .sc (.int .i64 x.file), .sc (.int .i64 x.n), .sl (byA x.b)]
def long9 (l : List Act9) : Bool := decide (60 < l.length) || l.any fun a => decide (300 < a.b.length)
theorem long9_len {l : List Act9} (h : 60 < l.length) : long9 l = true := by simp [long9, h]
theorem long9_t {l : List Act9} {k : Nat} (hk : k < l.length) (h : 300 < l[k].b.length) : long9 l = true := by
  unfold long9
  rw [Bool.or_eq_true, List.any_eq_true]
  exact .inr ⟨l[k], List.getElem_mem hk, by simpa using h⟩
theorem long9_f {l : List Act9} (h : ¬ 60 < l.length) (h2 : ∀ i (hi : i < l.length), ¬ 300 < l[i].b.length) : long9 l = false := by
  unfold long9
  rw [decide_eq_false h, Bool.false_or, List.any_eq_false]
  intro x hx; obtain ⟨i, hi, rfl⟩ := List.mem_iff_getElem.1 hx
  simpa using h2 i hi
theorem long9_use {l : List Act9} (h : long9 l = false) : l.length ≤ 60 ∧ ∀ i (hi : i < l.length), l[i].b.length ≤ 300 := by
  unfold long9 at h
  rw [Bool.or_eq_false_iff, List.any_eq_false] at h
  refine ⟨by simpa using h.1, fun i hi => ?_⟩
  have := h.2 l[i] (List.getElem_mem hi)
  simpa using this
theorem long9_c (l : List Act9) : AC Try.prog 11 [.sl (l.map Act9.cs)] (fun r => r = .s (.sc (.bool (long9 l)))) := by
  refine AC.of' 19 0 Try.func11 rfl ?_; change AW _ _ _ _ []; refine AW.seq ?_; refine AW.region ?_; refine AL.ra ?_; refine AL.nil ?_; change AW _ _ _ _ _; refine AW.seq ?_; refine AW.seq ?_; refine AW.region ?_; refine AL.rm ?_; refine AL.r (rd_len_sl rfl el_22 rfl) ?_; refine AL.r (rd_bin rfl rfl rfl (fun _ => rfl)) ?_; refine AL.nil ?_; change AW _ _ _ _ _; refine AW.cd rfl (fun h6 => ?_) (fun h6 => ?_)
  ·refine AW.seq ?_; refine AW.region ?_; refine AL.ra ?_; refine AL.nil ?_; change AW _ _ _ _ _; refine AW.ret ?_; change ResA _ _ _ _ _; refine res1 rfl (ResV.tmp rfl) rfl ?_; rw [long9_len (by omega)]
  ·refine AW.skip ?_; change AW _ _ _ _ _; refine AW.seq ?_; refine AW.seq ?_; refine AW.region ?_; refine AL.ra ?_; refine AL.nil ?_; change AW _ _ _ _ _; refine AW.block ?_; refine AW.loopM (ι := Nat) [2, 7, 8, 9, 10, 11, 12, 13, 14, 15, 16, 17, 18, 19] (fun k => [(3, .sc (.int .i64 (k : Int)))]) [] (fun k => []) (fun k => k ≤ l.length ∧ ∀ i (hi : i < l.length), i < k → ¬ 300 < l[i].b.length) (fun k => l.length - k) 0 (⟨by omega, fun i _ hi => absurd hi (by omega)⟩) (by simp only [anys, upds, offs, List.set_cons_zero, List.set_cons_succ]; repeat (first | exact Wk.nil | refine Wk.same ?_ | refine Wk.any ?_)) (by simp only [anys, upds, offs, List.set_cons_zero, List.set_cons_succ]; repeat (first | exact Sk.nil _ | refine Sk.same _ ?_ | refine Sk.scr _ (by decide) ?_)) ?_; rintro k gs hJ; refine AW.norm (by simp only [anys, upds, offs, List.set_cons_zero, List.set_cons_succ]; rfl) (by (try simp only [anys, upds, offs, List.set_cons_zero, List.set_cons_succ]); (try rfl)) ?_
   obtain ⟨hk, hok⟩ := hJ
   refine AW.seq ?_; refine AW.seq ?_; refine AW.region ?_; refine AL.rm ?_; refine AL.rm ?_; refine AL.r (rd_len_sl rfl el_22 rfl) ?_; refine AL.r (rd_bin rfl rfl rfl (fun _ => rfl)) ?_; refine AL.nil ?_; change AW _ _ _ _ _; refine AW.cd rfl (fun h10 => ?_) (fun h10 => ?_)
   ·refine AW.skip ?_; change AW _ _ _ _ _; refine AW.seq ?_; refine AW.block ?_; refine AW.seq ?_; refine AW.region ?_; refine AL.rm ?_; refine AL.rm ?_; refine AL.r (rd_iaddr_sl rfl el_22 rfl rfl rfl (get_mapA (by omega)) rfl) ?_; refine AL.r (rd_faddr_ep rfl fo_31_3 rfl) ?_; refine AL.r (rd_load_ep rfl ag_29 rfl rfl) ?_; refine AL.r (rd_len_sl rfl el_29 rfl) ?_; refine AL.r (rd_bin rfl rfl rfl (fun _ => rfl)) ?_; refine AL.nil ?_; change AW _ _ _ _ _; refine AW.cd rfl (fun h19 => ?_) (fun h19 => ?_)
    ·refine AW.seq ?_; refine AW.region ?_; refine AL.ra ?_; refine AL.nil ?_; change AW _ _ _ _ _; refine AW.ret ?_; change ResA _ _ _ _ _; refine res1 rfl (ResV.tmp rfl) rfl ?_; rw [long9_t (k := k) (by omega) (by omega)]
    ·refine AW.skip ?_; change AW _ _ _ _ _; refine AW.region ?_; refine AL.rm ?_; refine AL.r (rd_arith_add rfl rfl rfl (by first | exact IntWalk.i64_in _ (by omega) | rfl)) ?_; refine AL.ra ?_; refine AL.nil ?_; refine ⟨k + 1, ?_, by first | omega | (simp only []; omega), ?_, ?_⟩
     ·exact ⟨by omega, all_nextL (p := fun (y : Act9) => ¬ 300 < y.b.length) (by omega) hok (by omega)⟩
     ·simp only [anys, upds, offs, List.set_cons_zero, List.set_cons_succ]; repeat (first | exact Wk.nil | refine Wk.same ?_ | refine Wk.any ?_)
     ·simp only [anys, upds, offs, List.set_cons_zero, List.set_cons_succ]; repeat (first | exact Sk.nil _ | refine Sk.same _ ?_ | refine Sk.scr _ (by decide) ?_)
   ·refine AW.exit ?_; change AW _ _ _ _ _; refine AW.seq ?_; refine AW.region ?_; refine AL.ra ?_; refine AL.nil ?_; change AW _ _ _ _ _; refine AW.ret ?_; change ResA _ _ _ _ _; refine res1 rfl (ResV.tmp rfl) rfl ?_; rw [long9_f (by omega) (fun i hi => hok i hi (by omega))]
/-- All files, as texts. -/
def allR (d : DiskD) : AV := .ag [.sc (sv (d.n 0)), .sc (sv (d.n 1)), .sc (sv (d.n 2)), .sc (sv (d.n 3))]
section
variable {k : Nat} {d : DiskD}
theorem ok_read_lit (h : d.Ok k) (hk : k ≤ 1000000) (hd : d.dark = false) (G i : Nat) (hi : i < 4) : ACo Try.prog 19 [.bx 0 G 0, .sc (.int .i64 (i : Int))] [⟨G, .obj (DiskP d)⟩] (fun y os' => y = .tu [.sl (byA (d.n i)), .sc (.int .i64 0)] ∧ os' = [⟨G, .obj (DiskP d)⟩]) := by
  have := ok_read h hk G (i : Int)
  rwa [show readRi d (i : Int) = .tu [.sl (byA (d.n i)), .sc (.int .i64 0)] by unfold readRi readR; rw [if_pos (by omega), hd, if_neg (by decide), Int.toNat_natCast]] at this
end
end Go.Proofs.Ytdgcbhihmnhnaaa
