/- A part of a proof. -/
import Derived.Test.YtlapcfnmmpbeeaaPT46
import Derived.Test.YtlapcfnmmpbeeaaPT47
set_option linter.unusedSimpArgs false
set_option linter.unusedVariables false
namespace Go.Proofs.Ytlapcfnmmpbeeaa
set_option maxRecDepth 100000
open Go.RowKit
def openIn (inner : List UInt8) : NoteD × Int × Int := match inner with
  | [] => (zN, 0, 5)
  | c :: rest => if okF (c.toNat : Int) then openK (newR rest (c.toNat : Int)) (c.toNat : Int) else (zN, 0, 5)
theorem openIn_t {c : UInt8} {rest : List UInt8} (h : okF (c.toNat : Int) = true) : openIn (c :: rest) = openK (newR rest (c.toNat : Int)) (c.toNat : Int) := if_pos h
theorem openIn_f {c : UInt8} {rest : List UInt8} (h : okF (c.toNat : Int) = false) : openIn (c :: rest) = (zN, 0, 5) := if_neg (by rw [h]; decide)
def openP (t : Nat → Nat) (l : List UInt8) : NoteD × Int × Int := match fget t l with
  | none => (zN, 0, 8)
  | some inner => if 8 + inner.length = l.length then openIn inner else (zN, 0, 8)
abbrev openV (p : NoteD × Int × Int) : AV := .tu [p.1.av, AI p.2.1, AI p.2.2]
section
variable (t : Nat → Nat) (ht : ∀ i, i < 256 → t i < 4294967296) (l : List UInt8) (hl : l.length ≤ 60000)
include ht hl
theorem opens_c : AC Try.prog 8 [.sc (tabV t), .sl (byA l)] (fun r => r = .s (openV (openP t l))) := by
  have hg := fgetc t ht l 0 (Nat.zero_le _) (by omega)
  cases e : fget t l with
  | none =>
    rw [show openP t l = (zN, 0, 8) by unfold openP; rw [e]]
    exact open_torn t l [] 0 8 (by omega) (hg.mono fun r hr => by rw [hr]; unfold gB gE gC; rw [List.drop_zero, e] <;> rfl)
  | some inner =>
    have hE : gE t l 0 = ((8 + inner.length : Nat) : Int) := by unfold gE; rw [List.drop_zero, e] <;> simp
    by_cases h8 : 8 + inner.length = l.length
    · rw [show openP t l = openIn inner by unfold openP; rw [e]; exact if_pos h8]
      have hg' : AC Try.prog 23 [.sl (byA l), .sc (.int .i64 0), .sc (tabV t)] (fun r => r = .s (.tu [.sl (byA inner), .sc (.int .i64 (l.length : Int)), .sc (.int .i64 0)])) := hg.mono fun r hr => by rw [hr, hE, h8]; unfold gB gC; rw [List.drop_zero, e] <;> rfl
      cases inner with
      | nil => exact open_nil t l hg'
      | cons c rest =>
        have hr : rest.length ≤ 60000 := by simp at h8; omega
        cases hok : okF (c.toNat : Int) with
        | true => rw [openIn_t hok]; exact open_ok t l c rest hr hok hg'
        | false => rw [openIn_f hok]; exact open_form t l c rest hok hg'
    rw [show openP t l = (zN, 0, 8) by unfold openP; rw [e]; exact if_neg h8]
    exact open_torn t l inner ((8 + inner.length : Nat) : Int) 0 (by omega) (hg.mono fun r hr => by rw [hr, hE]; unfold gB gC; rw [List.drop_zero, e] <;> rfl)
end
set_option maxRecDepth 100000
inductive RawS (M : RM) : Value → AV → Prop
  | sc (v : Value) : RawS M v (.sc v)
  | sl0 (A : Option Addr) (c : Nat) (hc : c ≤ maxLen) : RawS M (.slice A 0 c) (.sl [])
  | sl1 (b n c sz : Nat) (T : TypeId) (vs : Array Value) (xs : List (List AV)) (U : Nat → Nat → Value) (hn : xs.length = n) (h0 : 0 < n) (hnc : n ≤ c) (hc : c ≤ maxLen) (hsz : 0 < sz) (hb : M b = some (T, vs)) (hl : ∀ (i : Nat) (cs : List AV), xs[i]? = some cs → cs.length = sz) (hv : ∀ i j, i < n → j < sz → vs[i * sz + j]? = some (U i j)) (h1 : ∀ i j, (U i j).oneCell' = true) (hr : ∀ (i j : Nat) (cs : List AV) x, xs[i]? = some cs → cs[j]? = some x → RawS M (U i j) x) : RawS M (.slice (some ⟨b, 0, none⟩) n c) (.sl xs)
section
variable {P : Program} {o : Oper} {KK : AV → List TK → Prop} {t : List AV} {st : List TK} {x y z : Operand} {G q : Nat} {M : RM} {F : Nat → Prop} {ρ : Loc} {w0 : Bs} {w : World} {v : Value} {xv yv zv : AV}
theorem RawS.rep (h : RawS M v xv) (hs : St F ρ st w0 w) (hq : st[q]? = some ⟨G, .obj (RawP M)⟩) : RepS (fun _ => True) w v xv := by
  induction h with
  | sc v => exact .sc v
  | sl0 A c hc => exact .sl0 A c hc
  | sl1 b n c sz T vs xs U hn h0 hnc hc hsz hb hl hv h1 hr ih =>
    have hp := (hs.obj q G _ hq).2 b T vs hb
    refine .sl1 b 0 n c sz U xs hn h0 hnc hc hsz trivial hl (fun i j hi hj => ?_) h1 ih; rw [Nat.zero_add, cell_of_row _ _ _ _ _ _ hp, hv i j hi hj]
def BArg (t : List AV) (st : List TK) (x : Operand) (z : AV) : Prop := ∀ F ρ w0 w a, St F ρ st w0 w → Fm F ρ st w a t → RepS (fun _ => True) w (a.eval x) z
theorem BArg.sc (h : evV t x = some v) : BArg t st x (.sc v) := fun F ρ w0 w a hs hm => by
  rw [hm.val h]; exact .sc v
theorem BArg.raw (q : Nat) (h : evV t x = some v) (hq : st[q]? = some ⟨G, .obj (RawP M)⟩) (hr : RawS M v xv) : BArg t st x xv := fun F ρ w0 w a hs hm => by
  rw [hm.val h]; exact hr.rep hs hq
end
set_option maxRecDepth 100000
section
variable {P : Program} {o : Oper} {KK : AV → List TK → Prop} {t : List AV} {st : List TK} {x y : Operand} {F : Nat → Prop} {ρ : Loc} {w : World} {v : Value}
theorem rdP_slice_sc {T e n m c sz b : Nat} {hi : Operand} {ik : IntKind} {I : Int} (ho : o.op = .slice T x none (some hi) none) (hT : elT P T = some (e, sz)) (hx : evV t x = some (.slice (some ⟨b, 0, none⟩) m c)) (hy : evV t hi = some (.int ik I)) (hI : I = (n : Int)) (hn : n ≤ c) : ARdP P o t st (.sc (.slice (some ⟨b, 0, none⟩) n c)) := fun F ρ w0 w a hs hm => by
  subst hI
  obtain ⟨hu, inf, hi1, hi2⟩ := el_under hT
  have hv := hm.val hx
  have hnC : (n : Int) ≤ (c : Int) := by omega
  refine ⟨_, .sc _, fun w' => ?_⟩; simp only [execOp, ho, Instr.sliceAt, Instr.slice, hv, Sem.run_bind, run_underlying hu, Result.andThen_ok, Option.map_none, Option.map_some, hm.val hy, Instr.sliceBounds, Instr.sliceBound, asIntOf, Sem.run_pure]; simp [hnC, Sem.run_bind, sizeOf, typeInfo, hi1, hi2, Addr.add_mid]
abbrev any12 : AV := .ag [.any, .any, .any, .any, .any, .any, .any, .any, .any, .any, .any, .any]
theorem rep_flat {c0 c1 c2 c3 c4 c5 c6 c7 c8 c9 c10 c11 : AV} {u1 u2 : Value} {F' : Nat → Prop} (h : RepS F' w v (.tu [.ag [c0, c1, c2, c3, c4, c5, c6, c7, c8, c9, c10, c11], .sc u1, .sc u2])) : Rep F ρ st w v (.tu [any12, .sc u1, .sc u2]) := by
  cases h with
  | tu vs _ hs hr =>
    refine .tu vs _ hs fun j v x hj hx => ?_
    match j with
    | 0 =>
      have h0 := hr 0 v _ hj rfl
      injection hx with hx
      subst hx
      cases h0 with
      | ag vs2 _ hs2 h12 hr2 =>
        refine .ag vs2 _ hs2 h12 fun j' v' x' hj' hx' => ?_
        have : x' = .any := by
          have hm := List.mem_of_getElem? hx'
          simp at hm
          exact hm
        rw [this]
        exact .any v'
    | 1 =>
      have h1 := hr 1 v _ hj rfl
      injection hx with hx
      subst hx
      cases h1
      exact Rep.sc _
    | 2 =>
      have h1 := hr 2 v _ hj rfl
      injection hx with hx
      subst hx
      cases h1
      exact Rep.sc _
    | j + 3 => simp at hx
theorem op_call_f2 {f : FuncId} {Ts : Array TypeId} {y1 y2 : AV} {R : RS → Prop} (hC : AC P f [y1, y2] R) (ho : o.op = .call { callee := .value (.func f), args := #[x, y], argTypes := Ts }) (hok : callOk P f = true) (h1 : BArg t st x y1) (h2 : BArg t st y y2) (hR : ∀ r, R r → ∃ c0 c1 c2 c3 c4 c5 c6 c7 c8 c9 c10 c11 u1 u2, r = .s (.tu [.ag [c0, c1, c2, c3, c4, c5, c6, c7, c8, c9, c10, c11], .sc u1, .sc u2]) ∧ KK (.tu [any12, .sc u1, .sc u2]) st) : AOpB P o t st KK := fun F ρ w0 w a hs hm next Q hn => by
  unfold Oper.wp
  rw [run_call ho hok]
  have hc := hC (fun _ => True) w (#[x, y].map a.eval) (by simp) (fun _ _ => trivial) (fun j v z hv hy => by
    match j with
    | 0 => simp at hv hy; subst hv hy; exact h1 F ρ w0 w a hs hm
    | 1 => simp at hv hy; subst hv hy; exact h2 F ρ w0 w a hs hm
    | j + 2 => simp at hy)
  refine Calls.mono hc fun e w' ⟨v, r, he, hr, hb, hRr⟩ => ?_; subst he; obtain ⟨c0, c1, c2, c3, c4, c5, c6, c7, c8, c9, c10, c11, u1, u2, rfl, hk⟩ := hR r hRr; exact hn v w' ρ st _ (hs.grow hb) (Mv.below hb) (rep_flat hr) hb hk
end
def Byt (vs : Array Value) (l : List UInt8) : Prop := ∀ i (h : i < l.length), vs[i]? = some (bv l[i])
theorem rawS_by {M : RM} {b c n : Nat} {T : TypeId} {vs : Array Value} {l : List UInt8} (hM : M b = some (T, vs)) (hv : Byt vs l) (hn : n ≤ l.length) (hc : n ≤ c) (hm : c ≤ maxLen) : RawS M (.slice (some ⟨b, 0, none⟩) n c) (.sl (byA (l.take n))) := by
  rcases Nat.eq_zero_or_pos n with h0 | h0
  · subst h0
    exact .sl0 _ _ hm
  refine .sl1 b n c 1 T vs (byA (l.take n)) (fun i _ => if h : i < l.length then bv l[i] else .bool false) (by rw [byA_len, List.length_take]; omega) h0 hc hm (by decide) hM (fun i cs hi => byA_one cs (List.mem_of_getElem? hi)) (fun i j hi hj => ?_) (fun i j => ?_) (fun i j cs x hi hj => ?_)
  · obtain rfl : j = 0 := by omega
    rw [Nat.mul_one, Nat.add_zero, dif_pos (by omega : i < l.length)]
    exact hv i (by omega)
  · split <;> rfl
  have hil := (List.getElem?_eq_some_iff.1 hi).1
  rw [byA_len, List.length_take] at hil
  rw [dif_pos (by omega : i < l.length)]
  unfold byA at hi
  rw [List.getElem?_map, List.getElem?_take, if_pos (by omega), List.getElem?_eq_getElem (by omega : i < l.length)] at hi
  injection hi with hi
  subst hi
  cases j with
  | zero => injection hj with hj; subst hj; exact .sc _
  | succ j => cases hj
theorem Byt.set {vs : Array Value} {l : List UInt8} (h : Byt vs l) {q : Nat} (hq : q < vs.size) (u : UInt8) : Byt (vs.setIfInBounds q (bv u)) (l.set q u) := fun i hi => by
  rw [List.length_set] at hi
  by_cases e : q = i
  · subst e
    rw [Array.getElem?_setIfInBounds_self_of_lt hq, List.getElem_set_self]
  rw [Array.getElem?_setIfInBounds_ne e, List.getElem_set_ne e, h i hi]
theorem RM.set_set (M : RM) (b : Nat) (r s : TypeId × Array Value) : (M.set b r).set b s = M.set b s := by
  funext j
  unfold RM.set
  split <;> rfl
set_option maxRecDepth 100000
theorem fget_cut (t : Nat → Nat) (b : List UInt8) (hb : b.length ≤ 60000) {k : Nat} (hk : k < 8 + b.length) : fget t ((frameN t b).take k) = none := by
  have hl := frameN_len t b
  have hr : ((frameN t b).take k).length = k := by rw [List.length_take]; omega
  by_cases h8 : k < 8
  · exact fget_n1 (by omega)
  refine fget_n2 (.inr ?_)
  have h4 := take4_frame t b []
  rw [List.append_nil] at h4
  rw [List.take_take, show min 4 k = 4 by omega, h4, num_leB4 _ (by omega), hr]
  omega
theorem openP_cut (t : Nat → Nat) (b : List UInt8) (hb : b.length ≤ 60000) {k : Nat} (hk : k < 8 + b.length) : openP t ((frameN t b).take k) = (zN, 0, 8) := by
  unfold openP
  rw [fget_cut t b hb hk]
theorem fb_nat2 {f : Int} (h : okF f = true) : (((fb f).toNat : Nat) : Int) = f := by
  rcases okF_iff.1 h with rfl | rfl <;> rfl
theorem openP_pk (t : Nat → Nat) (f : Int) (hok : okF f = true) (n : NoteD) (hw : n.Wf) (hn : noteB n = true) {l : List UInt8} (hg : fget t l = some (bytesN f n)) (hl : l.length = 8 + (bytesN f n).length) : openP t l = (n, f, 0) := by
  obtain ⟨h1, h2, h3⟩ := note_at hok hw hn
  have e : bytesN f n = fb f :: (bytesN f n).drop 1 := by
    cases hb : bytesN f n with
    | nil => rw [hb] at h3; cases h3
    | cons c r => rw [hb] at h3; injection h3 with h3; rw [h3]; rfl
  unfold openP
  rw [hg]
  show (if 8 + (bytesN f n).length = l.length then openIn (bytesN f n) else (zN, 0, 8)) = _
  rw [if_pos hl.symm, e, openIn_t (by rw [fb_nat2 hok]; exact hok), fb_nat2 hok, openK_t h2 h1]
theorem bytesN_pos {f : Int} (hok : okF f = true) {n : NoteD} (hw : n.Wf) (hn : noteB n = true) : 0 < (bytesN f n).length := by
  obtain ⟨_, _, h3⟩ := note_at hok hw hn
  exact (List.getElem?_eq_some_iff.1 h3).1
theorem openP_flip (f : Int) (hok : okF f = true) (n : NoteD) (hw : n.Wf) (hn : noteB n = true) {lx : List UInt8} (hlen : lx.length = 8 + (bytesN f n).length) {at_ m E : Nat} (hnum : num lx = num (frameN byteN (bytesN f n)) ^^^ (2 ^ at_ * m)) (hm : m < 2 ^ (E - at_)) (hm2 : m < 4294967296)
    (h : (32 ≤ at_ ∧ at_ < 64 ∧ E = 64) ∨ (64 ≤ at_ ∧ at_ ≤ 64 + 8 * (bytesN f n).length)) : openP byteN lx = if m = 0 then (n, f, 0) else (zN, 0, 8) := by
  have hb := bytesN_len (f := f) hn
  have hf := flip_fget (bytesN f n) lx (by omega) hlen at_ m E hnum hm hm2 h
  by_cases h0 : m = 0
  · rw [if_pos h0] at hf ⊢
    exact openP_pk byteN f hok n hw hn hf hlen
  rw [if_neg h0] at hf ⊢
  unfold openP
  rw [hf]
theorem sh_pw8 (j : Nat) (hj : j < 8) : IntKind.u8.wrap ((1 * 2 ^ j : Nat) : Int) = ((2 ^ j : Nat) : Int) := by
  have hp : (2 : Nat) ^ j < 256 := (show 2 ^ j < 2 ^ 8 from Nat.pow_lt_pow_right (by omega) hj)
  rw [Nat.one_mul]
  generalize (2 : Nat) ^ j = p at *
  simp [IntKind.wrap, IntKind.bits, IntKind.signed]
  omega
theorem xor_pw8 (y : UInt8) (j : Nat) (hj : j < 8) : ∃ u : UInt8, bits .xor .u8 ((y.toNat : Nat) : Int) ((2 ^ j : Nat) : Int) = (u.toNat : Nat) ∧ u.toNat = y.toNat ^^^ 2 ^ j := by
  have hy : y.toNat < 256 := UInt8.toNat_lt y
  have hp : (2 : Nat) ^ j < 256 := (show 2 ^ j < 2 ^ 8 from Nat.pow_lt_pow_right (by omega) hj)
  have hx : y.toNat ^^^ 2 ^ j < 256 := xor_lt8 hy hp
  refine ⟨UInt8.ofNat (y.toNat ^^^ 2 ^ j), ?_, ?_⟩
  · rw [UInt8.toNat_ofNat_of_lt' hx]
    exact u8_xor_nat y.toNat (2 ^ j) hy hp
  exact UInt8.toNat_ofNat_of_lt' hx
def TT (n F1 E : Nat) : Prop := (32 ≤ F1 ∧ F1 < 64 ∧ E = 64) ∨ (64 ≤ F1 ∧ F1 < E ∧ E = 8 * n)
theorem tt_f1 (n a : Nat) : ∃ F1 E : Nat, (32 : Int) + ((a % 32 : Nat) : Int) = (F1 : Int) ∧ (64 : Int) = (E : Int) ∧ TT n F1 E := ⟨32 + a % 32, 64, by omega, by omega, .inl ⟨by omega, by omega, rfl⟩⟩
theorem tt_f2 {n : Nat} (h : 9 ≤ n) (a : Nat) : ∃ F1 E : Nat, (64 : Int) + ((a % (8 * n - 64) : Nat) : Int) = (F1 : Int) ∧ (8 : Int) * (n : Int) = (E : Int) ∧ TT n F1 E := by
  have := Nat.mod_lt a (show 8 * n - 64 > 0 by omega)
  exact ⟨64 + a % (8 * n - 64), 8 * n, by omega, by omega, .inr ⟨by omega, by omega, rfl⟩⟩
theorem tt_bd {n : Nat} (h : 9 ≤ n) (a : Nat) : a % (8 * n - 64) < 8 * n := by
  have := Nat.mod_lt a (show 8 * n - 64 > 0 by omega)
  omega
theorem tt_sub {n : Nat} (h : 9 ≤ n) : (8 : Int) * (n : Int) - 64 = ((8 * n - 64 : Nat) : Int) := by omega
theorem byt_of {vs : Array Value} {l : List UInt8} (hc : ∀ (i : Nat) (cs : List AV) (j : Nat) (u : Value), (byA l)[i]? = some cs → cs[j]? = some (.sc u) → vs[i * 1 + j]? = some u) : Byt vs l := fun i hi => by
  have := hc i [.sc (bv l[i])] 0 (bv l[i]) (by simp [byA, hi]) rfl
  simpa using this
end Go.Proofs.Ytlapcfnmmpbeeaa
