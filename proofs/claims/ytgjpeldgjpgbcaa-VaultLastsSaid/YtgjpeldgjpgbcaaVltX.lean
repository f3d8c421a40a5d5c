/- The twelfth law of turns. No conditions. (Begun: only the start of the loop.) -/
import Derived.Test.YtgjpeldgjpgbcaaVltU
import Derived.Test.YtgjpeldgjpgbcaaVltW
namespace Go.Proofs.Ytgjpeldgjpgbcaa
set_option linter.unusedSimpArgs false
set_option linter.unusedVariables false
open Go.RowKit

theorem vj_new : VJ 0 (fun _ => []) (crD 150000) 0 1 [] [] := by
  obtain ⟨_, a, b⟩ := cr_sync (R := 150000) ⟨by omega, by omega⟩
  exact ⟨a, b, si_new byteN 0 rfl rfl, Nat.le_refl _, by rw [scan_nil], Nat.le_refl _, (by intro r hr; cases hr), fun _ _ => Nat.zero_le _⟩
theorem ze_St : zeroC Try.prog 87 = some [.int .i64 0, .slice none 0 0, .slice none 0 0, .int .i64 0] := by kernel_rfl
theorem rd_st0 {o : Oper} {t : List AV} {st : List TK} (ho : o.op = .build 87 #[]) : ARd Try.prog o t st (.ag [.sc (.int .i64 0), .sl (byA []), .sl (rowsA []), .sc (.int .i64 0)]) := by
  refine rd_nilcell (cs := [.sc (.int .i64 0), .sc (.slice none 0 0), .sc (.slice none 0 0), .sc (.int .i64 0)]) (rd_build (qs := []) ho pl_87 ze_St rfl rfl) rfl fun j x y hx hy => ?_
  rcases (by omega : j = 0 ∨ j = 1 ∨ j = 2 ∨ j = 3 ∨ 4 ≤ j) with rfl | rfl | rfl | rfl | h4
  · simp at hx hy; subst hx hy; exact .inl rfl
  · simp at hx hy; subst hx hy; exact .inr ⟨rfl, rfl⟩
  · simp at hx hy; subst hx hy; exact .inr ⟨rfl, rfl⟩
  · simp at hx hy; subst hx hy; exact .inl rfl
  · rw [List.getElem?_eq_none (by simp; omega)] at hx; cases hx
def vS (c E : Nat) (hh : List UInt8) : SltD := ⟨0, c, E, hh, false⟩
def vL (d : DiskD) (E : Nat) (rs : List (List UInt8)) : LogD := ⟨vfile E, false, rs.length, (scanN byteN (d.n (vfile E))).2, 0⟩
/-- Opened, whatever lies there. -/
theorem rest_open {k i : Nat} {F : Files} {d : DiskD} {E c : Nat} {hh : List UInt8} {rs : List (List UInt8)} {R : Int} (h : Rest R k F d) (hk : k ≤ 900000) (hs : SI byteN F 0 c E hh) (hsc : (scanN byteN (F (vfile E))).1 = rs) (ho : openR byteN d (vfile E) = 0) (h1 h2 h3 : Nat) : ACo Try.prog 58 [.bx 0 1 0, .sc (tabV byteN)] [⟨1, .obj (DiskP d)⟩, ⟨h1, .off⟩, ⟨h2, .off⟩, ⟨h3, .off⟩] (fun y os => y = .tu [.bx 3 (h3 + 1) 0, .sl (rowsA rs), .sc (.int .i64 0)] ∧ os = [⟨1, .obj (DiskP (openD byteN d (vfile E)))⟩, ⟨h1 + 1, .box 119 (fatC [.bx 0 1 0] byteN [.sc (.int .i64 (vS c E hh).file), .sc (.int .i64 (vS c E hh).counts), .sc (.int .i64 (vS c E hh).epoch), .sl (byA (vS c E hh).bytes), .sc (.bool (vS c E hh).down)])⟩, ⟨h2 + 1, .box 111 (fatC [.bx 0 1 0] byteN [.sc (.int .i64 (vL d E rs).file), .sc (.bool (vL d E rs).down), .sc (.int .i64 (vL d E rs).records), .sc (.int .i64 (vL d E rs).used), .sc (.int .i64 (vL d E rs).fresh)])⟩, ⟨h3 + 1, .box 126 (fatC [.bx 0 1 0] byteN [.bx 1 (h1 + 1) 0, .bx 2 (h2 + 1) 0, .sc (.int .i64 ((vfile E : Nat) : Int)), .sc (.bool false)])⟩]) := by
  have hn := h.n
  rw [← hn] at hs hsc
  have := vopen_ok byteN byte_tab d h.gro.ok hk 1 h1 h2 h3 h.dark (S := vS c E hh) (e := E) hs.opened rfl rfl rfl ho
  rw [hsc] at this
  exact this
def aL (d : DiskD) (E : Nat) (rs : List (List UInt8)) (b : List UInt8) : LogD := vaddL byteN ⟨((vfile E : Nat) : Int), false⟩ (vL d E rs) (openD byteN d (vfile E)) b
def aD (d : DiskD) (E : Nat) (rs : List (List UInt8)) (b : List UInt8) : DiskD := vaddD byteN ⟨((vfile E : Nat) : Int), false⟩ (vL d E rs) (openD byteN d (vfile E)) b
def tL (d : DiskD) (E : Nat) (rs : List (List UInt8)) (b : List UInt8) : LogD := vsyncL ⟨((vfile E : Nat) : Int), false⟩ (aL d E rs b) (aD d E rs b)
def tD (d : DiskD) (E : Nat) (rs : List (List UInt8)) (b : List UInt8) : DiskD := vsyncD ⟨((vfile E : Nat) : Int), false⟩ (aL d E rs b) (aD d E rs b)
section
variable {i : Nat} {F : Files} {d : DiskD} {E c : Nat} {hh : List UInt8} {rs : List (List UInt8)} (h : VJ i F d E c hh rs) (hi : i < 12) {b : List UInt8} (hb : b.length ≤ 400) (gv gs gl : Nat)
include h
theorem VJ.lok : (vL d E rs).Ok := by
  have h1 := scanN_le byteN (d.n (vfile E))
  have h2 := h.rest.gro.ok.nlen (vfile E)
  have h3 : (scanN byteN (d.n (vfile E))).1.length ≤ (d.n (vfile E)).length := by
    have a := scanN_take byteN (d.n (vfile E))
    have b := frames_len (t := byteN) (scanN byteN (d.n (vfile E))).1
    rw [← a, List.length_take] at b
    omega
  have h4 : rs.length ≤ 200000 := by rw [← h.sc, ← h.rest.n]; omega
  unfold vL
  exact ⟨⟨by show (0 : Int) ≤ (rs.length : Int); omega, by show (rs.length : Int) ≤ _; omega⟩, ⟨by show (0 : Int) ≤ (((scanN byteN (d.n (vfile E))).2 : Nat) : Int); omega, by show (((scanN byteN (d.n (vfile E))).2 : Nat) : Int) ≤ _; omega⟩, ⟨Int.le_refl 0, show (0 : Int) ≤ 1000000000000 by decide⟩⟩
include hi hb
theorem vj_add : ACo Try.prog 62 [.bx 0 gv 0, .sl (byA b)] (VltT gv gs gl 1 byteN ⟨((vfile E : Nat) : Int), false⟩ (vS c E hh) (vL d E rs) (openD byteN d (vfile E))) (fun y os' => y = .sc (.int .i64 0) ∧ os' = VltT gv gs gl 1 byteN ⟨((vfile E : Nat) : Int), false⟩ (vS c E hh) (aL d E rs b) (aD d E rs b)) := by
  obtain ⟨_, o2, F1, o3, o4, o5, o6⟩ := h.opened
  have ht := tot_le o6
  obtain ⟨a1, a2, _⟩ := calm_add (t := byteN) o3 o2 (vfile_lt E) (L := vL d E rs) rfl rfl (b := b) (by omega) (by omega)
  have := vadd_c gv gs gl 1 byteN byte_tab ⟨((vfile E : Nat) : Int), false⟩ (vS c E hh) (vL d E rs) (openD byteN d (vfile E)) o3.gro.ok (by omega) h.lok b
  rw [a1, a2] at this
  exact this
theorem vj_sync : ACo Try.prog 63 [.bx 0 gv 0] (VltT gv gs gl 1 byteN ⟨((vfile E : Nat) : Int), false⟩ (vS c E hh) (aL d E rs b) (aD d E rs b)) (fun y os' => y = .sc (.int .i64 0) ∧ os' = VltT gv gs gl 1 byteN ⟨((vfile E : Nat) : Int), false⟩ (vS c E hh) (tL d E rs b) (tD d E rs b)) := by
  obtain ⟨_, o2, F1, o3, o4, o5, o6⟩ := h.opened
  have ht := tot_le o6
  obtain ⟨_, _, _, a4, a5, a6, _⟩ := calm_add (t := byteN) o3 o2 (vfile_lt E) (L := vL d E rs) rfl rfl (b := b) (by omega) (by omega)
  have := vsync_c gv gs gl 1 byteN ⟨((vfile E : Nat) : Int), false⟩ (vS c E hh) (vaddL byteN ⟨((vfile E : Nat) : Int), false⟩ (vL d E rs) (openD byteN d (vfile E)) b) (vaddD byteN ⟨((vfile E : Nat) : Int), false⟩ (vL d E rs) (openD byteN d (vfile E)) b) a4 (by omega)
  rw [a5, a6] at this
  exact this
theorem vj_mid : (∃ F2, VM i F2 (tD d E rs b) E c hh (rs ++ [b])) ∧ (tL d E rs b).file = ((vfile E : Nat) : Int) ∧ (tL d E rs b).down = false := by
  obtain ⟨_, o2, F1, o3, o4, o5, o6⟩ := h.opened
  have ht := tot_le o6
  obtain ⟨_, _, _, _, _, _, a7, a8, _⟩ := calm_add (t := byteN) o3 o2 (vfile_lt E) (L := vL d E rs) rfl rfl (b := b) (by omega) (by omega)
  exact ⟨(h.added hi rfl rfl hb).2.2, a7, a8⟩
end
/-- Behind Fold and a crash: the old state, or the new one. -/
theorem vm_either {i E c : Nat} {hh b : List UInt8} {rs : List (List UInt8)} {F' : Files} {D : DiskD} {r : Int} (hE : E ≤ i) (hn : rs.length ≤ i) (hr : ∀ x ∈ rs, x.length ≤ 400) (hb : b.length ≤ 400) (h1 : Rest 150000 (20 * i + 10) F' D) (hfu : D.fused = false) (hz : ∀ j, j < 4 → (F' j).length ≤ 500 * (i + 1))
    (h2 : (¬ r = 0 ∧ SI byteN F' 0 c E hh ∧ F' (vfile E) = (rs ++ [b]).flatMap (frameN byteN)) ∨ (SI byteN F' 0 (1 - c) (E + 1) b ∧ F' (vfile (E + 1)) = [])) :
    ∃ E2 c2 h2 rs2, SI byteN F' 0 c2 E2 h2 ∧ (scanN byteN (F' (vfile E2))).1 = rs2 ∧ openR byteN D (vfile E2) = 0 ∧ (∃ F2, VJ (i + 1) F2 (openD byteN D (vfile E2)) E2 c2 h2 rs2) ∧ ((E2 = E ∧ h2 = hh ∧ rs2 = rs ++ [b] ∧ ¬ r = 0) ∨ (E2 = E + 1 ∧ h2 = b ∧ rs2 = [])) := by
  have sc : ∀ (q : List (List UInt8)), (∀ x ∈ q, x.length ≤ 400) → (scanN byteN (q.flatMap (frameN byteN))).1 = q := fun q hq => by
    have := scanN_frames (t := byteN) fget_nil q fun x hx => Nat.le_trans (hq x hx) (by omega)
    rw [List.append_nil] at this
    rw [this]
  rcases h2 with ⟨a, e1, e2⟩ | ⟨e1, e2⟩
  · have hr2 : ∀ x ∈ rs ++ [b], x.length ≤ 400 := fun x hx => by
      rcases List.mem_append.1 hx with hx | hx
      · exact hr x hx
      · rw [List.mem_singleton.1 hx]; exact hb
    obtain ⟨o1, o2⟩ := VJ.closed (rs := rs ++ [b]) h1 hfu e1 (by omega) e2 (by simp; omega) hr2 hz
    exact ⟨E, c, hh, rs ++ [b], e1, by rw [e2]; exact sc _ hr2, o1, o2, .inl ⟨rfl, rfl, rfl, a⟩⟩
  · obtain ⟨o1, o2⟩ := VJ.closed (rs := []) h1 hfu e1 (by omega) e2 (by simp) (by intro x hx; cases hx) hz
    exact ⟨E + 1, 1 - c, b, [], e1, by rw [e2]; exact sc [] (by intro x hx; cases hx), o1, o2, .inr ⟨rfl, rfl, rfl⟩⟩
theorem si_len {F : Files} {c E m : Nat} {hh : List UInt8} (h : SI byteN F 0 c E hh) (hm : ∀ j, j < 4 → (F j).length ≤ m) : hh.length ≤ m := by
  rcases Nat.eq_zero_or_pos E with h0 | h0
  · obtain ⟨_, rfl, _⟩ := h.z h0
    exact Nat.zero_le _
  · obtain ⟨a, _⟩ := h.s h0
    have b := (slot_le byteN (F (0 + c))).2
    rw [a] at b
    have := h.c2
    exact Nat.le_trans b (hm _ (by omega))
theorem VJ.hlen {i : Nat} {F : Files} {d : DiskD} {E c : Nat} {hh : List UInt8} {rs : List (List UInt8)} (h : VJ i F d E c hh rs) : hh.length ≤ 500 * i := si_len h.si h.sz
theorem turn_yes {i : Nat} {F : Files} {d : DiskD} {E c E2 : Nat} {hh b h2 : List UInt8} {rs rs2 : List (List UInt8)} {r : Int} (v : VJ i F d E2 c h2 rs2) (n : (E2 = E ∧ h2 = hh ∧ rs2 = rs ++ [b] ∧ ¬ r = 0) ∨ (E2 = E + 1 ∧ h2 = b ∧ rs2 = [])) (h : ¬ (E2 : Int) = (E : Int)) : VJ i F d (E + 1) c b [] := by
  rcases n with ⟨rfl, _⟩ | ⟨rfl, rfl, rfl⟩
  · exact absurd rfl h
  · exact v
theorem turn_no {i : Nat} {F : Files} {d : DiskD} {E c E2 : Nat} {hh b h2 : List UInt8} {rs rs2 : List (List UInt8)} {r : Int} (v : VJ i F d E2 c h2 rs2) (n : (E2 = E ∧ h2 = hh ∧ rs2 = rs ++ [b] ∧ ¬ r = 0) ∨ (E2 = E + 1 ∧ h2 = b ∧ rs2 = [])) (h : (E2 : Int) = (E : Int)) : VJ i F d E c hh (rs ++ [b]) := by
  rcases n with ⟨rfl, rfl, rfl, _⟩ | ⟨rfl, rfl, rfl⟩
  · exact v
  · omega
theorem turn_dead {E E2 : Nat} {hh b h2 : List UInt8} {rs rs2 : List (List UInt8)} {r : Int} (n : (E2 = E ∧ h2 = hh ∧ rs2 = rs ++ [b] ∧ ¬ r = 0) ∨ (E2 = E + 1 ∧ h2 = b ∧ rs2 = [])) (h : r = 0) : ¬ (E2 : Int) = (E : Int) := by
  rcases n with ⟨_, _, _, m⟩ | ⟨m, _⟩
  · exact absurd h m
  · omega
theorem rdP_nilcell {P : Program} {o : Oper} {t : List AV} {st : List TK} {cs cs' : List AV} (h : ARdP P o t st (.ag cs)) (hl : cs.length = cs'.length) (hc : ∀ (j : Nat) x y, cs[j]? = some x → cs'[j]? = some y → x = y ∨ (x = .sc (.slice none 0 0) ∧ y = .sl [])) : ARdP P o t st (.ag cs') := fun F ρ w0 w a hs hm => by
  obtain ⟨v, h1, h2⟩ := h F ρ w0 w a hs hm
  refine ⟨v, ?_, h2⟩
  obtain ⟨vs, rfl, g1, g2, g3⟩ := h1.ag_inv
  refine .ag vs cs' (g1.trans hl) g2 fun j v y hv hy => ?_
  have hj : j < cs.length := by have := (List.getElem?_eq_some_iff.1 hy).1; omega
  have hx : cs[j]? = some cs[j] := List.getElem?_eq_getElem hj
  rcases hc j _ y hx hy with e | ⟨e1, e2⟩
  · rw [← e]; exact g3 j v _ hv hx
  · have := g3 j v _ hv hx
    rw [e1] at this
    rw [e2, this.of_sc]
    exact .s (.sl0 none 0 (Nat.zero_le _))
theorem rdP_st2 {o : Oper} {t : List AV} {st : List TK} {x y : Operand} {E : Int} {b : List UInt8} (ho : o.op = .build 87 #[(0, x), (1, y)]) (hx : evA t x = .sc (.int .i64 E)) (hy : evA t y = .sl (byA b)) : ARdP Try.prog o t st (.ag [.sc (.int .i64 E), .sl (byA b), .sl (rowsA []), .sc (.int .i64 0)]) := by
  have hq : partsA t st [(0, x), (1, y)] = some [(0, [.sc (.int .i64 E)]), (1, [.sl (byA b)])] := by
    simp only [partsA, hx, hy, AV.cells?, liveA, if_true]
  refine rdP_nilcell (cs := [.sc (.int .i64 E), .sl (byA b), .sc (.slice none 0 0), .sc (.int .i64 0)]) (rdP_build (qs := [(0, [.sc (.int .i64 E)]), (1, [.sl (byA b)])]) ho pl_87 ze_St hq rfl) rfl fun j x y hx hy => ?_
  rcases (by omega : j = 0 ∨ j = 1 ∨ j = 2 ∨ j = 3 ∨ 4 ≤ j) with rfl | rfl | rfl | rfl | h4
  · simp at hx hy; subst hx hy; exact .inl rfl
  · simp at hx hy; subst hx hy; exact .inl rfl
  · simp at hx hy; subst hx hy; exact .inr ⟨rfl, rfl⟩
  · simp at hx hy; subst hx hy; exact .inl rfl
  · rw [List.getElem?_eq_none (by simp; omega)] at hx; cases hx
end Go.Proofs.Ytgjpeldgjpgbcaa
