/- The law DiskAgain, walked over abstract states. Conditions: none beyond the statement's. -/
import Derived.Test.YtdgcbhihmnhnaaaDsA
import Derived.Test.YtdgcbhihmnhnaaaDsC
import Derived.Test.YtdgcbhihmnhnaaaDskS
import Derived.Test.YtdgcbhihmnhnaaaJa
namespace Go.Proofs.Ytdgcbhihmnhnaaa
set_option linter.unusedSimpArgs false
set_option linter.unusedVariables false
set_option maxRecDepth 100000
set_option maxRecDepth 100000
open Go.RowKit

def apF (a : Act9) (s : Files) : Files := if a.kind = 1 ∧ 0 ≤ a.file ∧ a.file < 4 then upd s a.file.toNat (s a.file.toNat ++ a.b) else s
def filesAt (l : List Act9) (i : Nat) : Files := (l.take i).foldl (fun s a => apF a s) (fun _ => [])
theorem filesAt_next {l : List Act9} {i : Nat} (h : i < l.length) : filesAt l (i + 1) = apF l[i] (filesAt l i) := by
  unfold filesAt
  rw [← List.take_append_getElem h, List.foldl_append]; rfl
theorem apF_no {a : Act9} {s : Files} (h : ¬ a.kind = 1) : apF a s = s := if_neg fun q => h q.1
theorem rawB_head {l : List UInt8} {vs : Array Value} (hc : ∀ (i : Nat) (cs : List AV) (j : Nat) (u : Value), (byA l)[i]? = some cs → cs[j]? = some (.sc u) → vs[i * 1 + j]? = some u) (h : 0 < l.length) : vs[0]? = some (bv l[0]) := by
  have := hc 0 [.sc (bv l[0])] 0 (bv l[0]) (by simp [byA, h]) rfl
  simpa using this
theorem rawB_0 {M : RM} {b : Nat} {l : List UInt8} {T : TypeId} {vs : Array Value} (h : RawB M b l) (hM : M b = some (T, vs)) (h0 : 0 < l.length) : vs[0]? = some (bv l[0]) := by
  obtain ⟨T', vs', h1, h2⟩ := h
  rw [hM] at h1
  injection h1 with h1
  injection h1 with _ h1
  subst h1
  exact h2 0 h0
theorem calm_app_n {k : Nat} {d : DiskD} {a : Act9} (h : Calm k d) (hk : k ≤ 100) (hkd : a.kind = 1) (hb : a.b.length ≤ 300) : (appDi d a.file a.b).n = apF a d.n := by
  unfold appDi apF
  by_cases hf : 0 ≤ a.file ∧ a.file < 4
  · rw [if_pos hf, if_pos ⟨hkd, hf⟩]
    have ht := h.tot
    have hl : ¬ leftD d < a.b.length := by rw [leftD_eq, h.room]; omega
    unfold appD
    rw [h.dark, if_neg (by decide), if_neg hl, burnN_calm h.fused]
    by_cases h0 : (0 : Int) < a.b.length
    · rw [if_pos h0]
      simp [pushD, burnD_n]
    · rw [if_neg h0, burnD_n]
      have : a.b = [] := List.eq_nil_of_length_eq_zero (by omega)
      rw [this, List.append_nil]
      funext j
      unfold upd
      split
      · rename_i e; rw [e]
      · rfl
  · rw [if_neg hf, if_neg fun q => hf q.2]
theorem calm_crash {k : Nat} {d : DiskD} (h : Calm k d) (keep : Int) : (crashD (syncD d) keep).n = d.n ∧ (crashD (syncD d) keep).dark = false := by
  obtain ⟨c1, c2, c3, c4, c5, c6⟩ := calm_sync h
  refine ⟨?_, rfl⟩
  show (settleD (syncD d) keep).l = d.n
  rw [DiskD.Ok.sl h.ok.sync, c3, settleF, c2]
def anyW (ws : List WD) (f : Int) (b : List UInt8) : List WD := if 0 ≤ f ∧ f < 4 then addW ws f.toNat b else ws
theorem anyW_len (ws : List WD) (f : Int) (b : List UInt8) : ws.length ≤ (anyW ws f b).length ∧ (anyW ws f b).length ≤ ws.length + b.length := by
  unfold anyW addW; split <;> simp
theorem anyW_ok {ws : List WD} {f : Int} {b : List UInt8} (h : WOk ws) (hl : ws.length + b.length ≤ 100000) : WOk (anyW ws f b) := by
  have := anyW_len ws f b
  refine ⟨fun k hk => ?_, by omega⟩
  unfold anyW addW at hk ⊢
  split
  · rename_i hf
    simp only [hf, if_true, and_self] at hk
    by_cases hkl : k < ws.length
    · rw [List.getElem_append_left hkl]; exact h.1 k hkl
    · rw [List.getElem_append_right (by omega), List.getElem_map]
      show f.toNat < 4
      omega
  · rename_i hf
    simp only [hf, if_false] at hk
    exact h.1 k hk
theorem fw_add (ws : List WD) (f : Nat) (b : List UInt8) (q : Nat) : fw (addW ws f b) q = if f = q then fw ws q ++ b else fw ws q := by
  unfold fw addW
  rw [List.filter_append, List.map_append]
  by_cases h : f = q
  · subst h
    rw [if_pos rfl]
    congr 1
    rw [List.filter_eq_self.2 (by intro x hx; obtain ⟨c, _, rfl⟩ := List.mem_map.1 hx; simp)]
    simp
    exact List.map_id b
  · rw [if_neg h]
    have : (b.map fun c => (⟨f, c⟩ : WD)).filter (fun w => w.file == q) = [] := List.filter_eq_nil_iff.2 (by intro x hx; obtain ⟨c, _, rfl⟩ := List.mem_map.1 hx; simpa using h)
    rw [this]; simp
theorem anyW_f {ws : List WD} {a : Act9} {s : Files} (hk : a.kind = 1) (h : ∀ q, q < 4 → fw ws q = s q) {q : Nat} (hq : q < 4) : fw (anyW ws a.file a.b) q = apF a s q := by
  unfold anyW apF
  by_cases hf : 0 ≤ a.file ∧ a.file < 4
  · rw [if_pos hf, if_pos ⟨hk, hf⟩, fw_add, h q hq]
    unfold upd
    by_cases e : a.file.toNat = q
    · subst e; simp
    · rw [if_neg e, if_neg fun x => e x.symm]
  · rw [if_neg hf, if_neg fun x => hf x.2]; exact h q hq
theorem r9any_c (g g1 : Nat) (ws : List WD) (deeds : Int) (h : WOk ws) (f : Int) (b : List UInt8) (hb : ws.length + b.length ≤ 30000) (hd : 0 ≤ deeds ∧ deeds + b.length ≤ 1000000) : ACo Try.prog 16 [.bx 0 g 0, AI f, .sl (byA b)] (refT g g1 ws deeds) (fun y os' => y = AI (if 0 ≤ f ∧ f < 4 then 0 else 2) ∧ ∃ g2, os' = refT g g2 (anyW ws f b) (deeds + ((anyW ws f b).length - ws.length : Nat))) := by
  by_cases hf : 0 ≤ f ∧ f < 4
  · obtain ⟨n, rfl⟩ : ∃ n : Nat, f = n := ⟨f.toNat, by omega⟩
    refine (r9app_c g g1 ws deeds h n (by omega) b hb hd).mono fun y os' ⟨h1, g2, h2⟩ => ⟨by rw [if_pos hf]; exact h1, g2, ?_⟩; rw [h2]
    unfold anyW
    rw [if_pos hf]
    simp [addW]
  · refine (r9arg_c g g1 ws deeds f hf b).mono fun y os' ⟨h1, h2⟩ => ⟨by rw [if_neg hf]; exact h1, g1, ?_⟩; rw [h2]
    unfold anyW
    rw [if_neg hf]
    simp
section
variable (d : DiskD) (g g1 g2 g3 g4 g5 g6 g7 g8 g9 G : Nat) (M : RM)
theorem appendRo_c (bb c : Nat) (b : List UInt8) (f : Int) (hf : ¬ (0 ≤ f ∧ f < 4)) : ACo Try.prog 13 [.bx 0 g 0, .sc (.int .i64 f), .sc (.slice (some ⟨bb, 0, none⟩) b.length c)] (diskTR g g1 g2 g3 g4 g5 g6 g7 g8 g9 d G M)
    (fun y os' => y = .sc (.int .i64 2) ∧ DiskAtR g d G M os') := by
  refine ACo.of' (st0 := [⟨g, .box 95 [.sc (.int .i64 d.room), .ow 1 g1, .ow 2 g2, .ow 3 g3, .ow 4 g4, .ow 5 g5, .ow 6 g6, .ow 7 g7, .ow 8 g8, .ow 9 g9, .sc (.int .i64 d.waits), .sc (.int .i64 d.done), .sc (.bool d.fused), .sc (.int .i64 d.fuse), .sc (.bool d.dark)]⟩, ⟨g1, owM (d.nf 0) 5 1 (byA (d.n 0))⟩, ⟨g2, owM (d.nf 1) 5 1 (byA (d.n 1))⟩, ⟨g3, owM (d.nf 2) 5 1 (byA (d.n 2))⟩, ⟨g4, owM (d.nf 3) 5 1 (byA (d.n 3))⟩, ⟨g5, owM (d.lf 0) 5 1 (byA (d.l 0))⟩, ⟨g6, owM (d.lf 1) 5 1 (byA (d.l 1))⟩, ⟨g7, owM (d.lf 2) 5 1 (byA (d.l 2))⟩, ⟨g8, owM (d.lf 3) 5 1 (byA (d.l 3))⟩, ⟨g9, owM true 100 4 (d.q.map DeedD.cs)⟩, ⟨G, .obj (RawP M)⟩, TK.mk 0 .off, TK.mk 0 .off, TK.mk 0 .off, TK.mk 0 .off, TK.mk 0 .off]) 68 5 Try.func13 rfl 11 ?_; refine AW.seq ?_; refine AW.region ?_; refine AL.ra ?_; refine AL.nil ?_; change AW _ _ _ _ _; refine AW.seq ?_; refine AW.seq ?_; refine AW.region ?_; refine AL.rm ?_; refine AL.r (rd_peq_bx rfl pt_25 rfl rfl rfl) ?_
  refine AL.nil ?_; change AW _ _ _ _ _; refine AW.cond_f rfl ?_; refine AW.skip ?_; change AW _ _ _ _ _; refine AW.seq ?_; refine AW.seq ?_; refine AW.region ?_; refine AL.rm ?_; refine AL.op rfl (AOpB.op (op_call (right_out hf) rfl (by kernel_rfl) rfl (none) ?_)); rintro r rfl; refine AL.no ?_; refine AL.r (rd_un rfl rfl (fun _ => rfl)) ?_; refine AL.nil ?_; change AW _ _ _ _ _; refine AW.cond_t rfl ?_; refine AW.seq ?_; refine AW.region ?_; refine AL.ra ?_; refine AL.nil ?_; change AW _ _ _ _ _; refine AW.ret ?_
  repeat with_reducible first | refine thenA_ret ?_ | refine inBlockA_ret ?_
  with_reducible first | refine retO_ret ?_ | refine retO_normal ?_
  refine reso1DR rfl (ResV.tmp rfl) rfl ?_; exact ⟨rfl, g1, g2, g3, g4, g5, g6, g7, g8, g9, rfl⟩
theorem appendRi_c (bb c : Nat) (b : List UInt8) (h : d.Fit) (hB : RawB M bb b) (hc : b.length ≤ c) (hb : b.length ≤ 1099511627776) (f : Int) : ACo Try.prog 13 [.bx 0 g 0, .sc (.int .i64 f), .sc (.slice (some ⟨bb, 0, none⟩) b.length c)] (diskTR g g1 g2 g3 g4 g5 g6 g7 g8 g9 d G M)
    (fun y os' => y = .sc (.int .i64 (appRi d f b)) ∧ DiskAtR g (appDi d f b) G M os') := by
  by_cases hf : 0 ≤ f ∧ f < 4
  · unfold appRi appDi
    simp only [hf, and_self, if_true]
    rcases fourI hf with rfl | rfl | rfl | rfl
    · exact appendR_c0 d g g1 g2 g3 g4 g5 g6 g7 g8 g9 G M bb c b h hB hc hb
    · exact appendR_c1 d g g1 g2 g3 g4 g5 g6 g7 g8 g9 G M bb c b h hB hc hb
    · exact appendR_c2 d g g1 g2 g3 g4 g5 g6 g7 g8 g9 G M bb c b h hB hc hb
    · exact appendR_c3 d g g1 g2 g3 g4 g5 g6 g7 g8 g9 G M bb c b h hB hc hb
  · unfold appRi appDi
    simp only [hf, if_false]
    exact appendRo_c d g g1 g2 g3 g4 g5 g6 g7 g8 g9 G M bb c b f hf
theorem readR_i (h : d.Fit) (hd : d.dark = false) (i : Nat) (hi : i < 4) : ACo Try.prog 19 [.bx 0 g 0, .sc (.int .i64 (i : Int))] (diskTR g g1 g2 g3 g4 g5 g6 g7 g8 g9 d G M)
    (fun y os' => ∃ b vs M', y = .tu [.sc (.slice (some ⟨b, 0, none⟩) (d.n i).length (d.n i).length), .sc (.int .i64 0)] ∧ os' = diskTR g g1 g2 g3 g4 g5 g6 g7 g8 g9 d G M' ∧ M' b = some (5, vs) ∧ (d.n i).length ≤ vs.size ∧ RawB M' b (d.n i)) := by
  rcases four hi with rfl | rfl | rfl | rfl
  · exact readR_c0 d g g1 g2 g3 g4 g5 g6 g7 g8 g9 G M h hd
  · exact readR_c1 d g g1 g2 g3 g4 g5 g6 g7 g8 g9 G M h hd
  · exact readR_c2 d g g1 g2 g3 g4 g5 g6 g7 g8 g9 G M h hd
  · exact readR_c3 d g g1 g2 g3 g4 g5 g6 g7 g8 g9 G M h hd
end
end Go.Proofs.Ytdgcbhihmnhnaaa
