/- A part of a proof. -/
import Derived.Test.YtlapcfnmmpbeeaaPT22
set_option linter.unusedSimpArgs false
set_option linter.unusedVariables false
namespace Go.Proofs.Ytlapcfnmmpbeeaa
set_option maxRecDepth 100000
open Go.RowKit
set_option maxHeartbeats 1000000 in
theorem get_any (A : Option Addr) (n c : Nat) (l : List UInt8) (at_ f : Int) (w : World) (h : Rd w w.heap.size 1 A n (bvs l)) (hn : n ≤ 4611686018427387904) :
    Calls Try.prog 79 #[.slice A n c, .int .i64 at_, .int .i64 f] w fun e w' => e = .returned (t3 (getN l at_ f)) ∧ w = w' := by
  have hl := h.blen
  have H := Lib.hid h
  clear h
  by_cases gf : f = 1 ∨ f = 2
  · have e0 : (f == 1 || f == 2) = true := by simpa using gf
    by_cases g1 : at_ < 0
    · have d1 := decT g1
      have HF := Lib.hid (show getN l at_ f = (0, 0, 2) by unfold getN; rw [if_pos (by omega)])
      go_enter Try.func79, Try.ntmps79
      go_wp2_with fail
      (with_reducible refine (right_any f _).mono ?_)
      rintro e w' ⟨rfl, rfl⟩; rw [e0]
      go_wp2_with fail
      go_ret3
      exact ⟨by rw [HF.out]; rfl, rfl⟩
    have d1 := decF g1
    by_cases g2 : (n : Int) < at_
    · have d2 := decT g2
      have HF := Lib.hid (show getN l at_ f = (0, 0, 2) by unfold getN; rw [if_pos (by omega)])
      go_enter Try.func79, Try.ntmps79
      go_wp2_with fail
      (with_reducible refine (right_any f _).mono ?_)
      rintro e w' ⟨rfl, rfl⟩; rw [e0]
      go_wp2_with fail
      go_ret3
      exact ⟨by rw [HF.out]; rfl, rfl⟩
    have d2 := decF g2
    have HF := Lib.hid (show getN l at_ f = if f = 1 then fixG l at_.toNat else varG l at_.toNat by unfold getN; rw [if_neg (by omega)])
    obtain ⟨k, rfl⟩ : ∃ k : Nat, at_ = k := ⟨at_.toNat, by omega⟩
    rw [Int.toNat_natCast] at HF
    by_cases g3 : f = 1
    · have e1 : (f == 1) = true := by simp [g3]
      have HF2 := Lib.hid (HF.out.trans (if_pos g3))
      clear gf g3
      go_enter Try.func79, Try.ntmps79
      go_wp2_with fail
      (with_reducible refine (right_any f _).mono ?_)
      rintro e w' ⟨rfl, rfl⟩; rw [e0]
      go_wp2_with fail
      (with_reducible refine (getFixed_any A n c l k _ rfl _ H.out hn (by omega)).mono ?_)
      rintro e w' ⟨rfl, rfl⟩
      generalize fixG l k = p at *
      unfold t3
      go_wp2_with fail
      go_ret3
      exact ⟨by rw [HF2.out]; rfl, rfl⟩
    have e1 : (f == 1) = false := by simp [g3]
    have HF2 := Lib.hid (HF.out.trans (if_neg g3))
    clear gf g3
    go_enter Try.func79, Try.ntmps79
    go_wp2_with fail
    (with_reducible refine (right_any f _).mono ?_)
    rintro e w' ⟨rfl, rfl⟩; rw [e0]
    go_wp2_with fail
    (with_reducible refine (getVary_any A n c l k _ rfl _ H.out hn (by omega)).mono ?_)
    rintro e w' ⟨rfl, rfl⟩
    generalize varG l k = p at *
    unfold t3
    go_wp2_with fail
    go_ret3
    exact ⟨by rw [HF2.out]; rfl, rfl⟩
  have e0 : (f == 1 || f == 2) = false := by simpa using gf
  have HF := Lib.hid (show getN l at_ f = (0, 0, 2) by unfold getN; rw [if_pos (by omega)])
  go_enter Try.func79, Try.ntmps79
  go_wp2_with fail
  (with_reducible refine (right_any f _).mono ?_)
  rintro e w' ⟨rfl, rfl⟩; rw [e0]
  go_wp2_with fail
  go_ret3
  exact ⟨by rw [HF.out]; rfl, rfl⟩
set_option maxRecDepth 100000
theorem rep_bytes {F : Nat → Prop} {w : World} {v : Value} {l : List UInt8} (h : RepS F w v (.sl (byA l))) : ∃ A c, v = .slice A l.length c ∧ Rd w w.heap.size 1 A l.length (bvs l) ∧ l.length ≤ c ∧ c ≤ maxLen := by
  have hlen : (byA l).length = l.length := byA_len l
  generalize hxs : byA l = xs at *
  cases h with
  | sl0 A c hc =>
    have h0 : l.length = 0 := by rw [← hlen]; rfl
    obtain rfl := List.eq_nil_of_length_eq_zero h0
    exact ⟨A, c, rfl, ⟨rfl, fun h => absurd h (by simp)⟩, Nat.zero_le _, hc⟩
  | sl1 b off n c sz V _ hn h0 hnc hc hsz hf hl hv h1' hr =>
    have hnb : n = l.length := by rw [← hn, hlen]
    subst hnb
    have hg : ∀ i (hi : i < l.length), xs[i]? = some [.sc (bv l[i])] := fun i hi => by
      rw [← hxs]
      unfold byA
      rw [List.getElem?_map, List.getElem?_eq_getElem hi]; rfl
    have hs1 : sz = 1 := (hl 0 _ (hg 0 h0)).symm
    subst hs1
    refine ⟨_, c, rfl, ⟨by rw [bvs_len, Nat.mul_one], fun _ => ⟨b, off, rfl, block_lt_of_cell (hv 0 0 h0 (by omega)), fun j hj => ?_⟩⟩, hnc, hc⟩; rw [bvs_len] at hj
    have hV : V j 0 = bv l[j] := (hr j 0 _ _ (hg j hj) rfl).of_sc
    have hc2 := hv j 0 hj (by omega)
    rw [Nat.mul_one, Nat.add_zero, hV] at hc2
    rw [hc2]
    unfold bvs
    rw [List.getElem?_map, List.getElem?_eq_getElem hj]; rfl
theorem own_repO {F : Nat → Prop} {w : World} {base : Nat} {A : Option Addr} {n c : Nat} {l : List UInt8} (h : OwnB w base A n c l) (h2 : A ≠ none) : ∃ g, A = some ⟨g, 0, none⟩ ∧ n = (byA l).length ∧ RepO F base w g c 5 1 (byA l) := by
  obtain ⟨h1, h3⟩ := h
  have h3' := h3
  rcases h3.2 with ⟨e, _⟩ | ⟨g, cap, cur, e, _⟩
  · injection e with e; exact absurd e h2
  injection e with e1 e2 e3
  subst e1 e3
  refine ⟨g, rfl, by rw [byA_len, h1], bvs l, by rw [byA_len, h1]; exact h3', by omega, fun v hv => ?_, fun i cs h => byA_one cs (List.mem_of_getElem? h), fun i j cs v x hi hj hv => ?_⟩
  · unfold bvs at hv
    obtain ⟨b, _, rfl⟩ := List.mem_map.1 hv
    rfl
  unfold byA at hi
  rw [List.getElem?_map] at hi
  cases hb : l[i]? with
  | none => rw [hb] at hi; cases hi
  | some b =>
    rw [hb] at hi
    injection hi with hi
    subst hi
    have hj0 : j = 0 := by
      have := (List.getElem?_eq_some_iff.1 hj).1
      simpa using this
    subst hj0
    unfold bvs at hv
    rw [Nat.mul_one, Nat.add_zero, List.getElem?_map, hb] at hv
    simp at hv hj
    subst hv hj
    exact .sc _
theorem vs3 {vs : Array Value} (h : vs.size = 3) : ∃ a b c, vs = #[a, b, c] := ⟨vs[0], vs[1], vs[2], by apply Array.ext; simp [h]; intro i h1 h2; match i, h1 with | 0, _ => rfl | 1, _ => rfl | 2, _ => rfl | n + 3, h3 => omega⟩
theorem vs2 {vs : Array Value} (h : vs.size = 2) : ∃ a b, vs = #[a, b] := ⟨vs[0], vs[1], by apply Array.ext; simp [h]; intro i h1 h2; match i, h1 with | 0, _ => rfl | 1, _ => rfl | n + 2, h3 => omega⟩
theorem rep_t3 {F : Nat → Prop} {w : World} (p : Int × Int × Int) : RepS F w (t3 p) (.tu [.sc (.int .i64 p.1), .sc (.int .i64 p.2.1), .sc (.int .i64 p.2.2)]) := by
  refine .tu _ _ rfl fun j v x hv hx => ?_
  match j with
  | 0 => simp at hv hx; subst hv hx; exact .sc _
  | 1 => simp at hv hx; subst hv hx; exact .sc _
  | 2 => simp at hv hx; subst hv hx; exact .sc _
  | n + 3 => simp at hx
theorem cget_c (l : List UInt8) (at_ f : Int) (hl : l.length ≤ 4611686018427387904) : AC Try.prog 79 [.sl (byA l), .sc (.int .i64 at_), .sc (.int .i64 f)] (fun r => r = .s (.tu [.sc (.int .i64 (getN l at_ f).1), .sc (.int .i64 (getN l at_ f).2.1), .sc (.int .i64 (getN l at_ f).2.2)])) := fun F w vs hs _ hr => by
  obtain ⟨v0, v1, v2, rfl⟩ := vs3 hs
  obtain ⟨A, c, rfl, h1, h2, h3⟩ := rep_bytes (hr 0 v0 _ rfl rfl)
  obtain rfl := (hr 1 v1 _ rfl rfl).of_sc
  obtain rfl := (hr 2 v2 _ rfl rfl).of_sc
  refine (get_any A l.length c l at_ f w h1 hl).mono fun e w' he => ?_; obtain ⟨rfl, rfl⟩ := he; exact ⟨_, .s _, rfl, rep_t3 _, Below.refl _ _, rfl⟩
theorem own_repS {F : Nat → Prop} {w : World} {base : Nat} {A : Option Addr} {n c : Nat} {l : List UInt8} (h : OwnB w base A n c l) (hF : ∀ b, base ≤ b → F b) : RepS F w (.slice A n c) (.sl (byA l)) := by
  by_cases h0 : n = 0
  · subst h0
    obtain rfl := List.eq_nil_of_length_eq_zero h.1
    obtain ⟨h1, h3⟩ := h
    rcases h3.2 with ⟨e, _⟩ | ⟨g, cap, cur, e, hg, _, _, hc, _⟩
    · injection e with e1 _ e3; subst e1 e3; exact .sl0 _ _ (Nat.zero_le _)
    injection e with e1 _ e3; subst e1 e3; exact .sl0 _ _ hc
  have hA : A ≠ none := fun e => by
    subst e
    rcases h.2.2 with ⟨_, e⟩ | ⟨g, cap, cur, e, _⟩
    · exact h0 e
    cases e
  obtain ⟨hl, h3⟩ := h
  rcases h3.2 with ⟨_, e⟩ | ⟨g, cap, cur, e, hg, hb, hnc, hc, hsz, hcur⟩
  · exact absurd e h0
  injection e with e1 _ e3
  subst e1 e3
  have hbv : ∀ i (hi : i < n), cur[i]? = some (bv (l[i]'(by omega))) := fun i hi => by
    have : (cur.toList.take (n * 1))[i]? = (bvs l)[i]? := by rw [hcur]
    rw [List.getElem?_take, if_pos (by omega)] at this
    rw [← Array.getElem?_toList, this]
    unfold bvs
    rw [List.getElem?_map, List.getElem?_eq_getElem (by omega)]; rfl
  refine .sl1 g 0 n c 1 (fun i j => if h : i < n then bv (l[i]'(by omega)) else .bool false) _ (by rw [byA_len, hl]) (by omega) hnc hc (by omega) (hF _ hg) (fun i cs h => byA_one cs (List.mem_of_getElem? h)) (fun i j hi hj => ?_) (fun i j => ?_) (fun i j cs x hi hj => ?_)
  · obtain rfl : j = 0 := by omega
    rw [dif_pos hi, cell_of_row _ _ _ _ _ _ hb]
    simpa using hbv i hi
  · split
    · rfl
    rfl
  unfold byA at hi
  rw [List.getElem?_map] at hi
  cases hb2 : l[i]? with
  | none => rw [hb2] at hi; cases hi
  | some b =>
    rw [hb2] at hi
    injection hi with hi
    subst hi
    have hj0 : j = 0 := by
      have := (List.getElem?_eq_some_iff.1 hj).1
      simpa using this
    subst hj0
    simp at hj
    subst hj
    obtain ⟨h4, h5⟩ := List.getElem?_eq_some_iff.1 hb2
    rw [dif_pos (by omega), h5]
    exact .sc _
theorem ret_s {F : Nat → Prop} {w : World} {l : List UInt8} {f : FuncId} {vs : Array Value} (hF : ∀ b, w.heap.size ≤ b → F b) (h : Calls Try.prog f vs w (RetB w l)) : Calls Try.prog f vs w fun e w' => ∃ v r, e = .returned v ∧ RepR F w.heap.size w' v r ∧ Below w.heap.size w w' ∧ r = .s (.sl (byA l)) :=
  h.mono fun e w' ⟨A, n, c, he, ho, hb⟩ => ⟨_, .s (.sl (byA l)), he, own_repS ho hF, hb, rfl⟩
theorem ret_o {F : Nat → Prop} {w : World} {l : List UInt8} {f : FuncId} {vs : Array Value} (hl : l ≠ []) (h : Calls Try.prog f vs w (RetB w l)) : Calls Try.prog f vs w fun e w' => ∃ v r, e = .returned v ∧ RepR F w.heap.size w' v r ∧ Below w.heap.size w w' ∧ r = .o 5 1 (byA l) :=
  h.mono fun e w' ⟨A, n, c, he, ho, hb⟩ => by
    obtain ⟨g, rfl, rfl, hr⟩ := own_repO (F := F) ho (fun e => by
      subst e
      rcases ho.2.2 with ⟨_, e⟩ | ⟨g, cap, cur, e, _⟩
      · have h1 := ho.1
        rw [e] at h1
        exact hl (List.eq_nil_of_length_eq_zero h1)
      cases e)
    exact ⟨_, .o 5 1 (byA l), he, ⟨g, c, rfl, hr⟩, hb, rfl⟩
def i64R (n : Int) : Prop := -9223372036854775808 ≤ n ∧ n ≤ 9223372036854775807
section
variable (l : List UInt8) (f z : Int) (hl : l.length ≤ 70368744177664) (hf : i64R f) (hz : i64R z)
include hf hz
theorem cput_s (hl : l.length ≤ 70368744177664) : AC Try.prog 42 [.sl (byA l), .sc (.int .i64 f), .sc (.int .i64 z)] (fun r => r = .s (.sl (byA (l ++ putN f z)))) := fun F w vs hs hF hr => by
  obtain ⟨v0, v1, v2, rfl⟩ := vs3 hs
  obtain ⟨A, c, rfl, h1, h2, h3⟩ := rep_bytes (hr 0 v0 _ rfl rfl)
  obtain rfl := (hr 1 v1 _ rfl rfl).of_sc
  obtain rfl := (hr 2 v2 _ rfl rfl).of_sc
  exact ret_s hF (put_any A l.length c l f z w h1 hl hf.1 hf.2 hz.1 hz.2)
theorem cput_o (hl : l.length ≤ 70368744177664) (hne : l ++ putN f z ≠ []) : AC Try.prog 42 [.sl (byA l), .sc (.int .i64 f), .sc (.int .i64 z)] (fun r => r = .o 5 1 (byA (l ++ putN f z))) := fun F w vs hs hF hr => by
  obtain ⟨v0, v1, v2, rfl⟩ := vs3 hs
  obtain ⟨A, c, rfl, h1, h2, h3⟩ := rep_bytes (hr 0 v0 _ rfl rfl)
  obtain rfl := (hr 1 v1 _ rfl rfl).of_sc
  obtain rfl := (hr 2 v2 _ rfl rfl).of_sc
  exact ret_o hne (put_any A l.length c l f z w h1 hl hf.1 hf.2 hz.1 hz.2)
end
theorem cright_c (f : Int) : AC Try.prog 12 [.sc (.int .i64 f)] (fun r => r = .s (.sc (.bool (f == 1 || f == 2)))) := fun F w vs hs _ hr => by
  obtain ⟨v0, rfl⟩ : ∃ a, vs = #[a] := ⟨vs[0]'(by rw [hs]; exact Nat.zero_lt_one), by apply Array.ext; simpa using hs; intro i h1 h2; match i, h2 with | 0, _ => rfl⟩
  obtain rfl := (hr 0 v0 _ rfl rfl).of_sc
  refine (right_any f w).mono fun e w' he => ?_; obtain ⟨rfl, rfl⟩ := he; exact ⟨_, .s _, rfl, .sc _, Below.refl _ _, rfl⟩
theorem getN_put (l2 l3 : List UInt8) (f z : Int) (h1 : -9223372036854775808 ≤ z) (h2 : z ≤ 9223372036854775807) (hf : f = 1 ∨ f = 2) :
    getN (l2 ++ putN f z ++ l3) (l2.length : Nat) f = (z, ((l2.length + (putN f z).length : Nat) : Int), 0) := by
  have hd : (l2 ++ putN f z ++ l3).drop l2.length = putN f z ++ l3 := by rw [List.append_assoc, List.drop_left]
  unfold getN
  rw [if_neg (by rw [List.length_append, List.length_append]; omega), Int.toNat_natCast]
  rcases hf with rfl | rfl
  · have hp : putN 1 z = leB 8 (u64N z) := by unfold putN; rw [if_pos rfl]
    have hpl : (putN 1 z).length = 8 := by rw [hp, leB_len]
    rw [if_pos rfl, fixG, hd, if_neg (by rw [List.length_append]; omega), List.take_append_of_le_length (by omega), List.take_of_length_le (by omega), hp, num_leB, leB_len]
    have e : u64N z % 256 ^ 8 = u64N z := Nat.mod_eq_of_lt (u64N_lt z)
    rw [e, i64Z_u64N h1 h2]
    simp
  have hp : putN 2 z = vary 9 (turnN z) := by unfold putN; rw [if_neg (by decide), if_pos rfl]
  rw [if_neg (by decide), varG, hd, hp, gv0_vary _ _ (turnN_lt h1 h2)]
  show (backZ (turnN z), _, _) = _
  rw [backZ_turnN]
end Go.Proofs.Ytlapcfnmmpbeeaa
