/- A part of a proof. -/
import Derived.Lib.AppendStr
import Derived.Lib.ConvBytes
import Derived.Test.YtlapcfnmmpbeeaaGreatPO12
import Derived.Test.YtlapcfnmmpbeeaaGreatPO13
set_option linter.unusedSimpArgs false
set_option linter.unusedVariables false
namespace Go.Proofs.YtlapcfnmmpbeeaaGreat
open Go.RowKit
section
variable {P : Program} {c d : Code} {Q : jDa} {t : List AV} {st : List TK}
theorem Sk.go {tscr : List Nat} {s' b : List TK} (hsk : Sk tscr 0 s' b) {cc : Code} {QQ : jDa} {tt : List AV} (h : ∀ gs, AW P cc QQ tt (offs gs b tscr)) : AW P cc QQ tt s' := by
  obtain ⟨h1, h2⟩ := hsk.get
  let gs : Nat → Nat := fun j => ((s'[j]?).map TK.g).getD 0
  refine AW.offs tscr gs (fun j tk hj => by simp [gs, hj]) ?_
  have e : Go.Proofs.YtlapcfnmmpbeeaaGreat.offs gs s' tscr = Go.Proofs.YtlapcfnmmpbeeaaGreat.offs gs b tscr := by
    apply List.ext_getElem?
    intro j; rw [(jDI gs tscr s' j).2, (jDI gs tscr _ j).2, h1]
    rcases h2 j with h3 | h3
    · rw [Nat.zero_add] at h3
      by_cases hj : j < b.length
      · simp only [h3, hj, and_self, if_true]
      simp only [h3, hj, and_false, if_false]
      rw [List.getElem?_eq_none (by omega), List.getElem?_eq_none (by omega)]
    rw [h3]
  rw [e]
  exact h gs
theorem AW.join {ι : Type} (scr : List Nat) (up : ι → List (Nat × AV)) (tscr : List Nat) (tup : ι → List (Nat × TK)) (J : ι → Prop)
    (h1 : AW P c (jIw (fun t' st' => ∃ k, J k ∧ Wk t' (upds (anys t scr) (up k)) ∧ Sk tscr 0 st' (upds st (tup k))) Q) t st)
    (h2 : ∀ k gs, J k → AW P d Q (upds (anys t scr) (up k)) (Go.Proofs.YtlapcfnmmpbeeaaGreat.offs gs (upds st (tup k)) tscr)) : AW P (.seq c d) Q t st :=
  AW.seq (h1.mono fun e t' st' h => by
    cases e with
    | normal => obtain ⟨k, hJ, hw, hs⟩ := h; exact AW.wk hw (hs.go fun gs => h2 k gs hJ)
    | _ => exact h)
end
set_option maxRecDepth 100000
theorem jF1 {F : Nat → Prop} {w : World} {v : Value} {l : List UInt8} (h : RepS F w v (.sl (byA l))) : ∃ A c, v = .slice A l.length c ∧ Rd w w.heap.size 1 A l.length (bvs l) ∧ l.length ≤ c ∧ c ≤ maxLen := by
  have hlen : (byA l).length = l.length := jAd l
  generalize hxs : byA l = xs at *
  cases h with
  | sl0 A c hc =>
    have h0 : l.length = 0 := by rw [← hlen]; rfl
    obtain rfl := List.eq_nil_of_length_eq_zero h0
    exact ⟨A, c, rfl, ⟨rfl, fun h => absurd h (by simp)⟩, Nat.zero_le _, hc⟩
  | sl1 b off n c sz V _ hn h0 hnc hc hsz hf hl hv h1' hr =>
    have hnb : n = l.length := by rw [← hn, hlen]
    subst hnb
    have hg : ∀ i (hi : i < l.length), xs[i]? = some [.sc (bv l[i])] := fun i hi => by
      rw [← hxs]
      unfold byA
      rw [List.getElem?_map, List.getElem?_eq_getElem hi]; rfl
    have hs1 : sz = 1 := (hl 0 _ (hg 0 h0)).symm
    subst hs1
    refine ⟨_, c, rfl, ⟨by rw [jDh, Nat.mul_one], fun _ => ⟨b, off, rfl, block_lt_of_cell (hv 0 0 h0 (by omega)), fun j hj => ?_⟩⟩, hnc, hc⟩; rw [jDh] at hj
    have hV : V j 0 = bv l[j] := (hr j 0 _ _ (hg j hj) rfl).of_sc
    have hc2 := hv j 0 hj (by omega)
    rw [Nat.mul_one, Nat.add_zero, hV] at hc2
    rw [hc2]
    unfold bvs
    rw [List.getElem?_map, List.getElem?_eq_getElem hj]; rfl
theorem own_repO {F : Nat → Prop} {w : World} {base : Nat} {A : Option Addr} {n c : Nat} {l : List UInt8} (h : OwnB w base A n c l) (h2 : A ≠ none) : ∃ g, A = some ⟨g, 0, none⟩ ∧ n = (byA l).length ∧ RepO F base w g c 5 1 (byA l) := by
  obtain ⟨h1, h3⟩ := h
  have h3' := h3
  rcases h3.2 with ⟨e, _⟩ | ⟨g, cap, cur, e, _⟩
  · injection e with e; exact absurd e h2
  injection e with e1 e2 e3
  subst e1 e3
  refine ⟨g, rfl, by rw [jAd, h1], bvs l, by rw [jAd, h1]; exact h3', by omega, fun v hv => ?_, fun i cs h => jDf cs (List.mem_of_getElem? h), fun i j cs v x hi hj hv => ?_⟩
  · unfold bvs at hv
    obtain ⟨b, _, rfl⟩ := List.mem_map.1 hv
    rfl
  unfold byA at hi
  rw [List.getElem?_map] at hi
  cases hb : l[i]? with
  | none => rw [hb] at hi; cases hi
  | some b =>
    rw [hb] at hi
    injection hi with hi
    subst hi
    have hj0 : j = 0 := by
      have := (List.getElem?_eq_some_iff.1 hj).1
      simpa using this
    subst hj0
    unfold bvs at hv
    rw [Nat.mul_one, Nat.add_zero, List.getElem?_map, hb] at hv
    simp at hv hj
    subst hv hj
    exact .sc _
theorem vs3 {vs : Array Value} (h : vs.size = 3) : ∃ a b c, vs = #[a, b, c] := ⟨vs[0], vs[1], vs[2], by apply Array.ext; simp [h]; intro i h1 h2; match i, h1 with | 0, _ => rfl | 1, _ => rfl | 2, _ => rfl | n + 3, h3 => omega⟩
theorem vs2 {vs : Array Value} (h : vs.size = 2) : ∃ a b, vs = #[a, b] := ⟨vs[0], vs[1], by apply Array.ext; simp [h]; intro i h1 h2; match i, h1 with | 0, _ => rfl | 1, _ => rfl | n + 2, h3 => omega⟩
theorem rep_t3 {F : Nat → Prop} {w : World} (p : Int × Int × Int) : RepS F w (t3 p) (.tu [.sc (.int .i64 p.1), .sc (.int .i64 p.2.1), .sc (.int .i64 p.2.2)]) := by
  refine .tu _ _ rfl fun j v x hv hx => ?_
  match j with
  | 0 => simp at hv hx; subst hv hx; exact .sc _
  | 1 => simp at hv hx; subst hv hx; exact .sc _
  | 2 => simp at hv hx; subst hv hx; exact .sc _
  | n + 3 => simp at hx
theorem cget_c (l : List UInt8) (at_ f : Int) (hl : l.length ≤ 4611686018427387904) : AC Tryz.prog 145 [.sl (byA l), .sc (.int .i64 at_), .sc (.int .i64 f)] (fun r => r = .s (.tu [.sc (.int .i64 (getN l at_ f).1), .sc (.int .i64 (getN l at_ f).2.1), .sc (.int .i64 (getN l at_ f).2.2)])) := fun F w vs hs _ hr => by
  obtain ⟨v0, v1, v2, rfl⟩ := vs3 hs
  obtain ⟨A, c, rfl, h1, h2, h3⟩ := jF1 (hr 0 v0 _ rfl rfl)
  obtain rfl := (hr 1 v1 _ rfl rfl).of_sc
  obtain rfl := (hr 2 v2 _ rfl rfl).of_sc
  refine (get_any A l.length c l at_ f w h1 hl).mono fun e w' he => ?_; obtain ⟨rfl, rfl⟩ := he; exact ⟨_, .s _, rfl, rep_t3 _, Below.refl _ _, rfl⟩
theorem jCK (l : List UInt8) (at_ f : Int) (hl : l.length ≤ 4611686018427387904) : AC Tryz.prog 148 [.sl (byA l), .sc (.int .i64 at_), .sc (.int .i64 f)] (fun r => r = .s (.tu [.sc (.int .i64 (getN l at_ f).1), .sc (.int .i64 (getN l at_ f).2.1), .sc (.int .i64 (getN l at_ f).2.2)])) := fun F w vs hs _ hr => by
  obtain ⟨v0, v1, v2, rfl⟩ := vs3 hs
  obtain ⟨A, c, rfl, h1, h2, h3⟩ := jF1 (hr 0 v0 _ rfl rfl)
  obtain rfl := (hr 1 v1 _ rfl rfl).of_sc
  obtain rfl := (hr 2 v2 _ rfl rfl).of_sc
  refine (rget_any A l.length c l at_ f w h1 hl h2 h3).mono fun e w' he => ?_; obtain ⟨rfl, hb⟩ := he; exact ⟨_, .s _, rfl, rep_t3 _, hb, rfl⟩
theorem own_repS {F : Nat → Prop} {w : World} {base : Nat} {A : Option Addr} {n c : Nat} {l : List UInt8} (h : OwnB w base A n c l) (hF : ∀ b, base ≤ b → F b) : RepS F w (.slice A n c) (.sl (byA l)) := by
  by_cases h0 : n = 0
  · subst h0
    obtain rfl := List.eq_nil_of_length_eq_zero h.1
    obtain ⟨h1, h3⟩ := h
    rcases h3.2 with ⟨e, _⟩ | ⟨g, cap, cur, e, hg, _, _, hc, _⟩
    · injection e with e1 _ e3; subst e1 e3; exact .sl0 _ _ (Nat.zero_le _)
    injection e with e1 _ e3; subst e1 e3; exact .sl0 _ _ hc
  have hA : A ≠ none := fun e => by
    subst e
    rcases h.2.2 with ⟨_, e⟩ | ⟨g, cap, cur, e, _⟩
    · exact h0 e
    cases e
  obtain ⟨hl, h3⟩ := h
  rcases h3.2 with ⟨_, e⟩ | ⟨g, cap, cur, e, hg, hb, hnc, hc, hsz, hcur⟩
  · exact absurd e h0
  injection e with e1 _ e3
  subst e1 e3
  have hbv : ∀ i (hi : i < n), cur[i]? = some (bv (l[i]'(by omega))) := fun i hi => by
    have : (cur.toList.take (n * 1))[i]? = (bvs l)[i]? := by rw [hcur]
    rw [List.getElem?_take, if_pos (by omega)] at this
    rw [← Array.getElem?_toList, this]
    unfold bvs
    rw [List.getElem?_map, List.getElem?_eq_getElem (by omega)]; rfl
  refine .sl1 g 0 n c 1 (fun i j => if h : i < n then bv (l[i]'(by omega)) else .bool false) _ (by rw [jAd, hl]) (by omega) hnc hc (by omega) (hF _ hg) (fun i cs h => jDf cs (List.mem_of_getElem? h)) (fun i j hi hj => ?_) (fun i j => ?_) (fun i j cs x hi hj => ?_)
  · obtain rfl : j = 0 := by omega
    rw [dif_pos hi, cell_of_row _ _ _ _ _ _ hb]
    simpa using hbv i hi
  · split
    · rfl
    rfl
  unfold byA at hi
  rw [List.getElem?_map] at hi
  cases hb2 : l[i]? with
  | none => rw [hb2] at hi; cases hi
  | some b =>
    rw [hb2] at hi
    injection hi with hi
    subst hi
    have hj0 : j = 0 := by
      have := (List.getElem?_eq_some_iff.1 hj).1
      simpa using this
    subst hj0
    simp at hj
    subst hj
    obtain ⟨h4, h5⟩ := List.getElem?_eq_some_iff.1 hb2
    rw [dif_pos (by omega), h5]
    exact .sc _
theorem ret_s {F : Nat → Prop} {w : World} {l : List UInt8} {f : FuncId} {vs : Array Value} (hF : ∀ b, w.heap.size ≤ b → F b) (h : Calls Tryz.prog f vs w (RetB w l)) : Calls Tryz.prog f vs w fun e w' => ∃ v r, e = .returned v ∧ RepR F w.heap.size w' v r ∧ Below w.heap.size w w' ∧ r = .s (.sl (byA l)) :=
  h.mono fun e w' ⟨A, n, c, he, ho, hb⟩ => ⟨_, .s (.sl (byA l)), he, own_repS ho hF, hb, rfl⟩
theorem ret_o {F : Nat → Prop} {w : World} {l : List UInt8} {f : FuncId} {vs : Array Value} (hl : l ≠ []) (h : Calls Tryz.prog f vs w (RetB w l)) : Calls Tryz.prog f vs w fun e w' => ∃ v r, e = .returned v ∧ RepR F w.heap.size w' v r ∧ Below w.heap.size w w' ∧ r = .o 5 1 (byA l) :=
  h.mono fun e w' ⟨A, n, c, he, ho, hb⟩ => by
    obtain ⟨g, rfl, rfl, hr⟩ := own_repO (F := F) ho (fun e => by
      subst e
      rcases ho.2.2 with ⟨_, e⟩ | ⟨g, cap, cur, e, _⟩
      · have h1 := ho.1
        rw [e] at h1
        exact hl (List.eq_nil_of_length_eq_zero h1)
      cases e)
    exact ⟨_, .o 5 1 (byA l), he, ⟨g, c, rfl, hr⟩, hb, rfl⟩
def i64R (n : Int) : Prop := -9223372036854775808 ≤ n ∧ n ≤ 9223372036854775807
section
variable (l : List UInt8) (f z : Int) (hl : l.length ≤ 70368744177664) (hf : i64R f) (hz : i64R z)
include hf hz
theorem jGV (hl : l.length ≤ 70368744177664) : AC Tryz.prog 93 [.sl (byA l), .sc (.int .i64 f), .sc (.int .i64 z)] (fun r => r = .s (.sl (byA (l ++ putN f z)))) := fun F w vs hs hF hr => by
  obtain ⟨v0, v1, v2, rfl⟩ := vs3 hs
  obtain ⟨A, c, rfl, h1, h2, h3⟩ := jF1 (hr 0 v0 _ rfl rfl)
  obtain rfl := (hr 1 v1 _ rfl rfl).of_sc
  obtain rfl := (hr 2 v2 _ rfl rfl).of_sc
  exact ret_s hF (jMq A l.length c l f z w h1 hl hf.1 hf.2 hz.1 hz.2)
theorem cput_o (hl : l.length ≤ 70368744177664) (hne : l ++ putN f z ≠ []) : AC Tryz.prog 93 [.sl (byA l), .sc (.int .i64 f), .sc (.int .i64 z)] (fun r => r = .o 5 1 (byA (l ++ putN f z))) := fun F w vs hs hF hr => by
  obtain ⟨v0, v1, v2, rfl⟩ := vs3 hs
  obtain ⟨A, c, rfl, h1, h2, h3⟩ := jF1 (hr 0 v0 _ rfl rfl)
  obtain rfl := (hr 1 v1 _ rfl rfl).of_sc
  obtain rfl := (hr 2 v2 _ rfl rfl).of_sc
  exact ret_o hne (jMq A l.length c l f z w h1 hl hf.1 hf.2 hz.1 hz.2)
theorem crput_o (hne : putN f z ≠ []) : AC Tryz.prog 104 [.sc (.int .i64 f), .sc (.int .i64 z)] (fun r => r = .o 5 1 (byA (putN f z))) := fun F w vs hs hF hr => by
  obtain ⟨v1, v2, rfl⟩ := vs2 hs
  obtain rfl := (hr 0 v1 _ rfl rfl).of_sc
  obtain rfl := (hr 1 v2 _ rfl rfl).of_sc
  exact ret_o hne (jLa f z w hf.1 hf.2 hz.1 hz.2)
end
theorem jE1 (f : Int) : AC Tryz.prog 20 [.sc (.int .i64 f)] (fun r => r = .s (.sc (.bool (f == 1 || f == 2)))) := fun F w vs hs _ hr => by
  obtain ⟨v0, rfl⟩ : ∃ a, vs = #[a] := ⟨vs[0]'(by rw [hs]; exact Nat.zero_lt_one), by apply Array.ext; simpa using hs; intro i h1 h2; match i, h2 with | 0, _ => rfl⟩
  obtain rfl := (hr 0 v0 _ rfl rfl).of_sc
  refine (jEl f w).mono fun e w' he => ?_; obtain ⟨rfl, rfl⟩ := he; exact ⟨_, .s _, rfl, .sc _, Below.refl _ _, rfl⟩
theorem jJO (l : List UInt8) : Go.Lib.strCells ⟨l.toArray⟩ = bvs l := by simp [Go.Lib.strCells, bvs, bv]
theorem jHx {P : Program} {o : Oper} {t : List AV} {st : List TK} {x s : Operand} {K : AV → List TK → Prop} {T U e k g : Nat} {xs : List (List AV)} {l : List UInt8} (ho : o.op = .call { callee := .builtin .append, args := #[s, x], argTypes := #[T, U] }) (hT : P.underlying T = some (.slice e)) (hI : (P.info? e).map (fun i => (i.zero, i.size, i.bytes)) = some (some (Value.int IntKind.u8 0), 1, 1)) (hU : jH6 P U = true)
    (hs : evA t s = .ow k g) (hk : st[k]? = some ⟨g, .own e 1 xs⟩) (hx : evV t x = some (sv l)) (hsz : xs.length + l.length ≤ 140737488355328)
    (h : K (.ow k (g + 1)) (st.set k ⟨g + 1, .own e 1 (xs ++ byA l)⟩)) : AOp P o t st K := fun F ρ w0 w a hst hm next Q hn => by
  cases hi : P.info? e with
  | none => rw [hi] at hI; cases hI
  | some i =>
  rw [hi] at hI
  simp only [Option.map_some, Option.some.injEq, Prod.mk.injEq] at hI
  obtain ⟨hz0, hz1, hz2⟩ := hI
  have hu : P.underlying U = some .string := by unfold jH6 at hU; split at hU <;> simp_all
  have hxv := hm.val hx
  have hv := hm.ev s
  rw [hs] at hv
  have hv := hv.ow_inv hk
  obtain ⟨vs, h1, h2, h3, h4, h5⟩ := hst.own k g e 1 xs hk
  have hge := hst.geB k _ hk (by simp)
  have hsize : (⟨l.toArray⟩ : ByteArray).size = l.length := by simp [ByteArray.size]
  have key : ∃ v' w', (Builtin.append_ #[T, U] o.type #[.slice (some ⟨(ρ k).1, 0, none⟩) xs.length (ρ k).2, sv l]).run P w = .ok v' w' ∧ w'.ownsRow 0 e 1 v' (xs.length + l.length) (vs ++ bvs l) ∧ w.grownBy w' (some (ρ k).1) ∧ (v'.ownBlock = some (ρ k).1 ∨ v'.ownBlock = some w.heap.size) := by
    obtain ⟨v', w', hrun, g2, g3, _⟩ := Go.Lib.run_append_own_string (P := P) w 0 T U o.type e i hT hu hi hz0 hz1 hz2 _ xs.length vs h1 ⟨l.toArray⟩ (by unfold maxLen; rw [hsize]; omega) (by rw [hsize]; omega) (Nat.zero_le _)
    rw [hsize, jJO] at g2
    refine ⟨v', w', hrun, g2, g3, ?_⟩
    rcases h1.2 with ⟨e1, _⟩ | ⟨gg, cap, cur, e1, hbg, hg, hnc, hcm, hcs, htake⟩
    · cases e1
    injection e1 with e1 _ e3
    injection e1 with e1
    injection e1 with e1
    rw [e3] at hrun
    rw [e1] at hrun
    by_cases hroom : xs.length + (⟨l.toArray⟩ : ByteArray).size ≤ cap
    · have hr := Go.Lib.run_append_room_string (P := P) w T U o.type e i hT hu hi hz1 gg xs.length cap cur hg ⟨l.toArray⟩ hroom (by rw [hcs]; omega)
      have := hrun.symm.trans hr
      injection this with e4 e5
      left
      rw [e4, e1]; rfl
    have holds : ∀ j u, vs[j]? = some u → w.cell? ((⟨gg, 0, none⟩ : Addr).add j) = some u := (by have h1' := h1; rw [e1, e3] at h1'; exact h1'.cells (g := gg) rfl)
    have hr := Go.Lib.run_append_grow_string (P := P) w T U o.type e i (.int .u8 0) hT hu hi hz0 ⟨gg, 0, none⟩ xs.length cap vs (by rw [hz1]; exact h1.1) holds ⟨l.toArray⟩ (by omega) (by rw [hsize]; omega) (by rw [hz2, hsize]; exact growslice_fits (by omega) (by omega))
    have := hrun.symm.trans hr
    injection this with e4 e5
    right
    rw [e4]; rfl
  obtain ⟨v', w', hrun, g2, g3, g4⟩ := key
  have hex : ∃ g' cap, v' = .slice (some ⟨g', 0, none⟩) (xs ++ byA l).length cap ∧ (g' = (ρ k).1 ∨ g' = w.heap.size) := by
    rcases g2.2 with ⟨h', h0⟩ | ⟨g', cap, cur, h', _⟩
    · rw [h'] at g4
      rcases g4 with g4 | g4 <;> cases g4
    rw [h'] at g4
    refine ⟨g', cap, by rw [h', List.length_append, jAd], ?_⟩
    rcases g4 with g4 | g4
    · injection g4 with g4; exact .inl g4
    injection g4 with g4; exact .inr g4
  obtain ⟨g', cap, rfl, hg'⟩ := hex
  rw [← jAd l, ← List.length_append] at g2
  obtain ⟨ρ', hρ, hs', hmv⟩ := hst.regrow (row := some (ρ k).1) hk (fun b e => by injection e with e; exact ⟨by simp, e.symm⟩) g3 (hg'.imp (fun e => ⟨by simp, e⟩) id) (g2.lt g' rfl).2 e 1 cap (xs ++ byA l) ⟨vs ++ bvs l, g2, h2, fun v hv => (List.mem_append.1 hv).elim (h3 v) (fun hv => by unfold bvs at hv; obtain ⟨b, _, rfl⟩ := List.mem_map.1 hv; rfl), fun i cs hc => by
      rcases Nat.lt_or_ge i xs.length with hlt | hge
      · rw [List.getElem?_append_left hlt] at hc; exact h4 i cs hc
      rw [List.getElem?_append_right hge] at hc; exact jDf cs (List.mem_of_getElem? hc), jL1 h1.1 h4 h5 (fun i j cs v z hi hj hv => by
      unfold byA at hi
      rw [List.getElem?_map] at hi
      cases hb : l[i]? with
      | none => rw [hb] at hi; cases hi
      | some b =>
        rw [hb] at hi
        injection hi with hi
        subst hi
        have hj0 : j = 0 := by
          have := (List.getElem?_eq_some_iff.1 hj).1
          simpa using this
        subst hj0
        unfold bvs at hv
        rw [Nat.mul_one, Nat.add_zero, List.getElem?_map, hb] at hv
        simp at hv hj
        subst hv hj
        exact .sc _)⟩
  have hrun2 : (execOp a.eval o).run P w = .ok (.value (.slice (some ⟨g', 0, none⟩) (xs ++ byA l).length cap)) w' := by
    simp only [execOp, ho, resolve, invoke, builtin, Sem.run_bind, Sem.run_pure, Result.andThen_ok, List.map_toArray, List.map_cons, List.map_nil, hv, hxv, hrun]
  unfold Oper.wp
  rw [hrun2]
  have hk2 : (st.set k ⟨g + 1, .own e 1 (xs ++ byA l)⟩)[k]? = some ⟨g + 1, .own e 1 (xs ++ byA l)⟩ := by rw [List.getElem?_set_self (List.getElem?_eq_some_iff.1 hk).1]
  have hrep := Rep.ow (F := F) (ρ := ρ') (w := w') k (g + 1) e 1 (xs ++ byA l) hk2
  rw [hρ] at hrep
  exact hn _ w' ρ' _ _ hs' hmv hrep h
theorem op_s2b {P : Program} {o : Oper} {t : List AV} {st : List TK} {x : Operand} {K : AV → List TK → Prop} {src dst e : TypeId} {l : List UInt8} (ho : o.op = .convert src dst x) (hs : jH6 P src = true) (hd : P.underlying dst = some (.slice e)) (he : P.underlying e = some (.int .u8)) (hx : evV t x = some (sv l)) (hl : l.length ≤ maxLen) (h : K (.sl (byA l)) st) : AOpB P o t st K := fun F ρ w0 w a hst hm next Q hn => by
  have hu : P.underlying src = some .string := by unfold jH6 at hs; split at hs <;> simp_all
  have hxv := hm.val hx
  have hsize : (⟨l.toArray⟩ : ByteArray).size = l.length := by simp [ByteArray.size]
  have hrun := Go.Lib.run_convert_string_bytes (P := P) w src dst e ⟨l.toArray⟩ hu hd he
  have hb : Below w.heap.size w (Go.Lib.bytesWorld w e ⟨l.toArray⟩) := ⟨rfl, rfl, rfl, by rw [Go.Lib.bytesWorld_size]; omega, fun k hk => Go.Lib.bytesWorld_at_old w e _ k hk⟩
  have hcap : grownCap w l.length 0 e ≤ maxLen := grownCap_le_maxLen w l.length 0 e hl
  have hge : l.length ≤ grownCap w l.length 0 e := grownCap_ge w l.length 0 e
  rw [hsize] at hrun
  have hrep : RepS (Free F ρ st) (Go.Lib.bytesWorld w e ⟨l.toArray⟩) (.slice (some ⟨w.heap.size, 0, none⟩) l.length (grownCap w l.length 0 e)) (.sl (byA l)) := by
    by_cases h0 : l.length = 0
    · obtain rfl := List.eq_nil_of_length_eq_zero h0
      exact .sl0 _ _ hcap
    refine .sl1 w.heap.size 0 l.length _ 1 (fun i j => if h : i < l.length then bv l[i] else .bool false) _ (by rw [jAd]) (by omega) hge hcap (by omega) (hst.free_new (Nat.le_refl _)) (fun i cs h => jDf cs (List.mem_of_getElem? h)) (fun i j hi hj => ?_) (fun i j => ?_) (fun i j cs x hi hj => ?_)
    · obtain rfl : j = 0 := by omega
      have := Go.Lib.bytesWorld_cell w e ⟨l.toArray⟩ i (by rw [hsize]; exact hi)
      simp only [dif_pos hi, Nat.mul_one, Nat.add_zero, Nat.zero_add]
      rw [this]
      simp [bv, hi]
    · split
      · rfl
      rfl
    unfold byA at hi
    rw [List.getElem?_map] at hi
    cases hb2 : l[i]? with
    | none => rw [hb2] at hi; cases hi
    | some b =>
      rw [hb2] at hi
      injection hi with hi
      subst hi
      have hj0 : j = 0 := by
        have := (List.getElem?_eq_some_iff.1 hj).1
        simpa using this
      subst hj0
      simp at hj
      subst hj
      obtain ⟨h4, h5⟩ := List.getElem?_eq_some_iff.1 hb2
      rw [dif_pos h4, h5]
      exact .sc _
  have hrun2 : (execOp a.eval o).run P w = .ok (.value (.slice (some ⟨w.heap.size, 0, none⟩) l.length (grownCap w l.length 0 e))) (Go.Lib.bytesWorld w e ⟨l.toArray⟩) := by
    simp only [execOp, ho, hxv, Sem.run_bind, hrun, Result.andThen_ok, Sem.run_pure]
  unfold Oper.wp
  rw [hrun2]
  exact hn _ _ ρ st _ (hst.grow hb) (Mv.below hb) (.s hrep) hb h
set_option maxRecDepth 100000
theorem jI4 (a b : List UInt8) (ha : a.length ≤ 1099511627776) (hb : b.length ≤ 1099511627776) : AC Tryz.prog 94 [.sl (byA a), .sl (byA b)] (fun r => r = .o 5 1 (byA (a ++ b))) := by
  have qa := jAd a
  have qb := jAd b
  refine AC.of' 16 3 Tryz.func94 rfl ?_; change AW _ _ _ _ [TK.mk 0 .off, TK.mk 0 .off, TK.mk 0 .off]; refine AW.g (AL.ra ?_); refine AL.nil (AW.g (AL.rm ?_)); refine AL.r (lN jAC) ?_; refine AL.rm ?_; refine AL.r (lN jAC) ?_; refine AL.r (jAj rfl rfl rfl (IntWalk.i64_in _ (by omega))) ?_; refine AL.oq (AOpB.op (jHB 0 rfl jBC rfl rfl (show _ = ((a.length + b.length : Nat) : Int) by omega) (by omega) (by omega) rfl ?_)); refine AL.n ?_; refine AL.ra ?_; refine AL.nil (AW.g ?_); (iterate 2 refine AL.rm ?_); refine AL.oq (jAz rfl jBC rfl rfl (jBQ rfl) (by first | omega | (simp; omega) | simp) (by first | omega | (simp; omega) | simp) ?_); refine AL.n ?_; refine AL.ra ?_; refine AL.nil (AW.g ?_); (iterate 2 refine AL.rm ?_); refine AL.oq (jAz rfl jBC rfl rfl (jBQ rfl) (by first | omega | (simp; omega) | simp) (by first | omega | (simp; omega) | simp) ?_); refine AL.n ?_; refine AL.ra ?_; refine AL.nil (AW.ret (jDX rfl (ResV.tmp rfl) rfl ?_)); rw [List.nil_append, jA9]
theorem jAG (f z : Int) : (putN f z).length ≤ 10 := by
  unfold putN; split
  · rw [jBc]; omega
  split
  · exact jHD 9 _
  simp
theorem jJM {f z : Int} (h : f = 1 ∨ f = 2) : putN f z ≠ [] := by
  have : 0 < (putN f z).length := by
    unfold putN
    rcases h with rfl | rfl
    · rw [if_pos rfl, jBc]; omega
    rw [if_neg (by decide), if_pos rfl]; exact jKE 9 _
  exact fun e => by rw [e] at this; simp at this
def okF (f : Int) : Bool := f == 1 || f == 2
theorem okF_iff {f : Int} : okF f = true ↔ f = 1 ∨ f = 2 := by unfold okF; simp
theorem cput_n (f z : Int) (hf : i64R f) (hz : i64R z) (h : okF f = true) : AC Tryz.prog 93 [.sl (byA []), .sc (.int .i64 f), .sc (.int .i64 z)] (fun r => r = .o 5 1 (byA (putN f z))) := by
  have := cput_o [] f z hf hz (by simp) (by rw [List.nil_append]; exact jJM (okF_iff.1 h))
  rwa [List.nil_append] at this
theorem jM6 (f z : Int) (hf : i64R f) (hz : i64R z) : AC Tryz.prog 93 [.sl (byA []), .sc (.int .i64 f), .sc (.int .i64 z)] (fun r => r = .s (.sl (byA (putN f z)))) := by
  have := jGV [] f z hf hz (by simp)
  rwa [List.nil_append] at this
def jC5 (f : Int) (s : jAU) : List UInt8 := if okF f then putN f s.length ++ s else []
def tagP (f : Int) (t : TagD) : List UInt8 := putN f t.rep ++ putN f t.n
def refP (f : Int) (r : RefD) : List UInt8 := putN f r.scope ++ jC5 f r.group ++ jC5 f r.name
theorem jBg (f : Int) (s : jAU) : (jC5 f s).length ≤ 10 + s.length := by
  have := jAG f s.length
  unfold jC5
  split
  · rw [List.length_append]; omega
  simp
section
variable (b : List UInt8) (f : Int) (hb : b.length ≤ 549755813888) (hf : i64R f)
include hb hf
theorem jKa (z : Int) (hz : i64R z) : AC Tryz.prog 44 [.sl (byA b), .sc (.int .i64 f), .sc (.int .i64 z)] (fun r => r = .s (.sl (byA (b ++ putN f z)))) := by
  refine AC.of' 8 0 Tryz.func44 rfl ?_; change AW _ _ _ _ []; refine AW.g (AL.ra ?_); refine AL.nil (AW.g ?_); (iterate 3 refine AL.rm ?_); refine AL.cl (jGV b f z hf hz (by omega)) ?_; refine AL.n ?_; refine AL.ra ?_; refine AL.nil (AW.ret (r1t ?_)); rfl
theorem jHK (s : jAU) (hs : s.length ≤ 549755813000) : AC Tryz.prog 96 [.sl (byA b), .sc (.int .i64 f), AS s] (fun r => r = .s (.sl (byA (b ++ jC5 f s)))) := by
  have ht := jAG f s.length
  refine AC.of' 17 2 Tryz.func96 rfl ?_; change AW _ _ _ _ [TK.mk 0 .off, TK.mk 0 .off]; refine AW.g (AL.ra ?_); refine AL.nil (AW.seq (AW.g (AL.rm ?_))); refine AL.cl (jE1 f) ?_; refine AL.n ?_; refine AL.r qu ?_; refine AL.nil (AW.cd rfl (fun h9 => ?_) (fun h9 => ?_))
  ·refine AW.g (AL.rm ?_); refine AL.cl (jI4 b [] (by omega) (by simp)) ?_; refine AL.n ?_; refine AL.ra ?_; refine AL.nil (AW.ret (r1t ?_)); rw [jC5, if_neg (by simp_all [okF])]
  refine AW.skip (AW.g ?_)
  have hF : okF f = true := (by unfold okF; simpa using h9)
  have hl := jAd (putN f s.length)
  (iterate 3 refine AL.rm ?_); refine AL.r (jBF rfl jDb rfl) ?_; refine AL.oq (AOpB.op (jAb (cput_n f s.length hf ⟨by omega, by omega⟩ hF) rfl (by kernel_rfl) rfl (some 0) ?_)); rintro r rfl; refine ⟨_, rfl, ?_⟩; refine AL.n ?_; refine AL.rm ?_; refine AL.oq (jHx rfl Tryz.underlying52 (by kernel_rfl) jDb rfl rfl rfl (by simp only [jAd]; omega) ?_); refine AL.n ?_; refine AL.settle 18 rfl rfl (by first | rfl | exact jBe _ _ _ _) ?_; refine AL.no ?_; refine AL.cl (jI4 b (putN f s.length ++ s) (by omega) (by rw [List.length_append]; omega)) ?_; refine AL.n ?_; refine AL.ra ?_; refine AL.nil (AW.ret (r1t ?_)); rw [jC5, if_pos hF]
theorem pref_c (r : RefD) (h1 : i64R r.scope) (hg : r.group.length ≤ 1000000) (hn : r.name.length ≤ 1000000) : AC Tryz.prog 97 [.sl (byA b), .sc (.int .i64 f), r.av] (fun x => x = .s (.sl (byA (b ++ refP f r)))) := by
  have l1 := jAG f r.scope
  have l2 := jBg f r.group
  have l3 := jBg f r.name
  change AC _ _ [.sl (byA b), .sc (.int .i64 f), .ag [AI r.scope, AS r.group, AS r.name]] _; refine AC.of' 22 1 Tryz.func97 rfl ?_; change AW _ _ _ _ [TK.mk 0 .off]; refine AW.g (AL.oq (AOpB.op (oB 0 ?_))); refine AL.n ?_; refine AL.ra ?_; refine AL.nil (AW.g (AL.rm ?_)); refine AL.r (qa jB7) ?_; refine AL.r (ql ag_3) ?_; refine AL.cl (jM6 f r.scope hf h1) ?_; refine AL.n ?_; refine AL.ra ?_; refine AL.nil (AW.g ?_); (iterate 2 refine AL.rm ?_); refine AL.r (qa jC1) ?_; refine AL.r (ql ag_9) ?_; refine AL.oq (AOpB.op (jAb (jHK (putN f r.scope) f (by omega) hf r.group (by omega)) rfl (by kernel_rfl) rfl (none) ?_)); rintro r rfl; refine AL.n ?_; refine AL.ra ?_; refine AL.nil (AW.g ?_); (iterate 2 refine AL.rm ?_); refine AL.r (qa jFo) ?_; refine AL.r (ql ag_9) ?_; refine AL.cl (jHK (putN f r.scope ++ jC5 f r.group) f (by rw [List.length_append]; omega) hf r.name (by omega)) ?_; refine AL.n ?_; refine AL.ra ?_; refine AL.nil (AW.g ?_); (iterate 2 refine AL.rm ?_); refine AL.cl (jI4 b (refP f r) (by omega) (by unfold refP; simp only [List.length_append]; omega)) ?_; refine AL.n ?_; refine AL.ra ?_; refine AL.nil (AW.ret (r1t ?_))
  rfl
end
section
variable {P : Program} {o : Oper} {t : List AV} {st : List TK}
theorem jLP {f : FuncId} {xs : Array Operand} {Ts : Array TypeId} {x : Operand} {a : Act} {w : World} (ho : o.op = .call { callee := .value x, args := xs, argTypes := Ts }) (hx : a.eval x = .func (.func f) #[] #[]) (hok : jEf P f = true) : (execOp a.eval o).run P w = .ok (.enter f (xs.map a.eval)) w := by
  unfold jEf at hok
  cases hf : P.funcs[f]? with
  | none => rw [hf] at hok; cases hok
  | some fn =>
    rw [hf] at hok
    cases hb : fn.body with
    | none => simp [hb] at hok
    | some b =>
      simp [hb] at hok
      simp only [execOp, ho, resolve, Deferred.ofValue, hx, Sem.run_bind, Sem.run_pure, Result.andThen_ok, invoke, callFunc, Array.empty_append, Array.append_empty]
      simp [hf, hok, hb]
theorem jGz {K : AV → List TK → Prop} {f : FuncId} {xs : Array Operand} {Ts : Array TypeId} {x : Operand} {ys : List AV} {R : RS → Prop} (hC : AC P f ys R) (ho : o.op = .call { callee := .value x, args := xs, argTypes := Ts }) (hx : evV t x = some (.func (.func f) #[] #[])) (hok : jEf P f = true) (hargs : jHR t xs.toList = some ys) (kt : Option Nat) (h : ∀ r, R r → KR K st kt r) : AOpB P o t st K := fun F ρ w0 w a hs hm next Q hn => by
  have h0 := jAb (o := { o with op := .call { callee := .value (.func f), args := xs, argTypes := Ts } }) hC rfl hok hargs kt h F ρ w0 w a hs hm next Q hn
  unfold Oper.wp at h0 ⊢
  rw [jHH rfl hok] at h0
  rw [jLP ho (hm.val hx) hok]
  exact h0
end
end Go.Proofs.YtlapcfnmmpbeeaaGreat
