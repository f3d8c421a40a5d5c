/- Texts of the proof of talkRight_holds, put together by a program: Fv CodeU CodeG CdB Cut. -/
import Derived.Deep.DeepCutAuto
import Derived.Laws.BytesString
import Derived.Test.YtlapcfnmmpbeeaaGreatPR05
import Derived.Test.YtlapcfnmmpbeeaaGreatPR23
set_option linter.unusedSimpArgs false
set_option linter.unusedVariables false
namespace Go.Proofs.YtlapcfnmmpbeeaaGreat
open Go.RowKit
section
variable {P : Program} {o : Oper} {t : List AV} {st : List TK}
theorem run_callv {f : FuncId} {xs : Array Operand} {Ts : Array TypeId} {x : Operand} {a : Act} {w : World} (ho : o.op = .call { callee := .value x, args := xs, argTypes := Ts }) (hx : a.eval x = .func (.func f) #[] #[]) (hok : callOk P f = true) : (execOp a.eval o).run P w = .ok (.enter f (xs.map a.eval)) w := by
  unfold callOk at hok
  cases hf : P.funcs[f]? with
  | none => rw [hf] at hok; cases hok
  | some fn =>
    rw [hf] at hok
    cases hb : fn.body with
    | none => simp [hb] at hok
    | some b =>
      simp [hb] at hok
      simp only [execOp, ho, resolve, Deferred.ofValue, hx, Sem.run_bind, Sem.run_pure, Result.andThen_ok, invoke, callFunc, Array.empty_append, Array.append_empty]
      simp [hf, hok, hb]
theorem op_callv {K : AV → List TK → Prop} {f : FuncId} {xs : Array Operand} {Ts : Array TypeId} {x : Operand} {ys : List AV} {R : RS → Prop} (hC : AC P f ys R) (ho : o.op = .call { callee := .value x, args := xs, argTypes := Ts }) (hx : evV t x = some (.func (.func f) #[] #[])) (hok : callOk P f = true) (hargs : argsA t xs.toList = some ys) (kt : Option Nat) (h : ∀ r, R r → KR K st kt r) : AOpB P o t st K := fun F ρ w0 w a hs hm next Q hn => by
  have h0 := op_call (o := { o with op := .call { callee := .value (.func f), args := xs, argTypes := Ts } }) hC rfl hok hargs kt h F ρ w0 w a hs hm next Q hn
  unfold Oper.wp at h0 ⊢
  rw [run_call rfl hok] at h0
  rw [run_callv ho (hm.val hx) hok]
  exact h0
end
end Go.Proofs.YtlapcfnmmpbeeaaGreat
namespace Go.Proofs.YtlapcfnmmpbeeaaGreat
set_option maxRecDepth 100000
open Go.RowKit
theorem p1 : putN 1 300 = [44, 1, 0, 0, 0, 0, 0, 0] := by decide +kernel
end Go.Proofs.YtlapcfnmmpbeeaaGreat
namespace Go.Proofs.YtlapcfnmmpbeeaaGreat
set_option maxRecDepth 100000
open Go.RowKit
def fixG (l : List UInt8) (k : Nat) : Int × Int × Int := if (l.drop k).length < 8 then (0, 0, 8) else (i64Z (num ((l.drop k).take 8)), k + 8, 0)
def varG (l : List UInt8) (k : Nat) : Int × Int × Int := match gv (l.drop k) 0 0 with | none => (0, 0, 8) | some (u, s) => (backZ u, (k + s : Nat), 0)
def getN (l : List UInt8) (at_ f : Int) : Int × Int × Int :=
  if (f ≠ 1 ∧ f ≠ 2) ∨ at_ < 0 ∨ (l.length : Int) < at_ then (0, 0, 2) else if f = 1 then fixG l at_.toNat else varG l at_.toNat
end Go.Proofs.YtlapcfnmmpbeeaaGreat
namespace Go.Proofs.YtlapcfnmmpbeeaaGreat
set_option maxRecDepth 100000
open Go.RowKit
theorem rep_bytes {F : Nat → Prop} {w : World} {v : Value} {l : List UInt8} (h : RepS F w v (.sl (byA l))) : ∃ A c, v = .slice A l.length c ∧ Rd w w.heap.size 1 A l.length (bvs l) ∧ l.length ≤ c ∧ c ≤ maxLen := by
  have hlen : (byA l).length = l.length := byA_len l
  generalize hxs : byA l = xs at *
  cases h with
  | sl0 A c hc =>
    have h0 : l.length = 0 := by rw [← hlen]; rfl
    obtain rfl := List.eq_nil_of_length_eq_zero h0
    exact ⟨A, c, rfl, ⟨rfl, fun h => absurd h (by simp)⟩, Nat.zero_le _, hc⟩
  | sl1 b off n c sz V _ hn h0 hnc hc hsz hf hl hv h1' hr =>
    have hnb : n = l.length := by rw [← hn, hlen]
    subst hnb
    have hg : ∀ i (hi : i < l.length), xs[i]? = some [.sc (bv l[i])] := fun i hi => by
      rw [← hxs]
      unfold byA
      rw [List.getElem?_map, List.getElem?_eq_getElem hi]; rfl
    have hs1 : sz = 1 := (hl 0 _ (hg 0 h0)).symm
    subst hs1
    refine ⟨_, c, rfl, ⟨by rw [bvs_len, Nat.mul_one], fun _ => ⟨b, off, rfl, block_lt_of_cell (hv 0 0 h0 (by omega)), fun j hj => ?_⟩⟩, hnc, hc⟩; rw [bvs_len] at hj
    have hV : V j 0 = bv l[j] := (hr j 0 _ _ (hg j hj) rfl).of_sc
    have hc2 := hv j 0 hj (by omega)
    rw [Nat.mul_one, Nat.add_zero, hV] at hc2
    rw [hc2]
    unfold bvs
    rw [List.getElem?_map, List.getElem?_eq_getElem hj]; rfl
theorem own_repO {F : Nat → Prop} {w : World} {base : Nat} {A : Option Addr} {n c : Nat} {l : List UInt8} (h : OwnB w base A n c l) (h2 : A ≠ none) : ∃ g, A = some ⟨g, 0, none⟩ ∧ n = (byA l).length ∧ RepO F base w g c 5 1 (byA l) := by
  obtain ⟨h1, h3⟩ := h
  have h3' := h3
  rcases h3.2 with ⟨e, _⟩ | ⟨g, cap, cur, e, _⟩
  · injection e with e; exact absurd e h2
  · injection e with e1 e2 e3
    subst e1 e3
    refine ⟨g, rfl, by rw [byA_len, h1], bvs l, by rw [byA_len, h1]; exact h3', by omega, fun v hv => ?_, fun i cs h => byA_one cs (List.mem_of_getElem? h), fun i j cs v x hi hj hv => ?_⟩
    · unfold bvs at hv
      obtain ⟨b, _, rfl⟩ := List.mem_map.1 hv
      rfl
    · unfold byA at hi
      rw [List.getElem?_map] at hi
      cases hb : l[i]? with
      | none => rw [hb] at hi; cases hi
      | some b =>
        rw [hb] at hi
        injection hi with hi
        subst hi
        have hj0 : j = 0 := by
          have := (List.getElem?_eq_some_iff.1 hj).1
          simpa using this
        subst hj0
        unfold bvs at hv
        rw [Nat.mul_one, Nat.add_zero, List.getElem?_map, hb] at hv
        simp at hv hj
        subst hv hj
        exact .sc _
theorem vs3 {vs : Array Value} (h : vs.size = 3) : ∃ a b c, vs = #[a, b, c] := ⟨vs[0], vs[1], vs[2], by apply Array.ext; simp [h]; intro i h1 h2; match i, h1 with | 0, _ => rfl | 1, _ => rfl | 2, _ => rfl | n + 3, h3 => omega⟩
theorem vs2 {vs : Array Value} (h : vs.size = 2) : ∃ a b, vs = #[a, b] := ⟨vs[0], vs[1], by apply Array.ext; simp [h]; intro i h1 h2; match i, h1 with | 0, _ => rfl | 1, _ => rfl | n + 2, h3 => omega⟩
theorem own_repS {F : Nat → Prop} {w : World} {base : Nat} {A : Option Addr} {n c : Nat} {l : List UInt8} (h : OwnB w base A n c l) (hF : ∀ b, base ≤ b → F b) : RepS F w (.slice A n c) (.sl (byA l)) := by
  by_cases h0 : n = 0
  · subst h0
    obtain rfl := List.eq_nil_of_length_eq_zero h.1
    obtain ⟨h1, h3⟩ := h
    rcases h3.2 with ⟨e, _⟩ | ⟨g, cap, cur, e, hg, _, _, hc, _⟩
    · injection e with e1 _ e3; subst e1 e3; exact .sl0 _ _ (Nat.zero_le _)
    · injection e with e1 _ e3; subst e1 e3; exact .sl0 _ _ hc
  · have hA : A ≠ none := fun e => by
      subst e
      rcases h.2.2 with ⟨_, e⟩ | ⟨g, cap, cur, e, _⟩
      · exact h0 e
      · cases e
    obtain ⟨hl, h3⟩ := h
    rcases h3.2 with ⟨_, e⟩ | ⟨g, cap, cur, e, hg, hb, hnc, hc, hsz, hcur⟩
    · exact absurd e h0
    · injection e with e1 _ e3
      subst e1 e3
      have hbv : ∀ i (hi : i < n), cur[i]? = some (bv (l[i]'(by omega))) := fun i hi => by
        have : (cur.toList.take (n * 1))[i]? = (bvs l)[i]? := by rw [hcur]
        rw [List.getElem?_take, if_pos (by omega)] at this
        rw [← Array.getElem?_toList, this]
        unfold bvs
        rw [List.getElem?_map, List.getElem?_eq_getElem (by omega)]; rfl
      refine .sl1 g 0 n c 1 (fun i j => if h : i < n then bv (l[i]'(by omega)) else .bool false) _ (by rw [byA_len, hl]) (by omega) hnc hc (by omega) (hF _ hg) (fun i cs h => byA_one cs (List.mem_of_getElem? h)) (fun i j hi hj => ?_) (fun i j => ?_) (fun i j cs x hi hj => ?_)
      · obtain rfl : j = 0 := by omega
        rw [dif_pos hi, cell_of_row _ _ _ _ _ _ hb]
        simpa using hbv i hi
      · split
        · rfl
        · rfl
      · unfold byA at hi
        rw [List.getElem?_map] at hi
        cases hb2 : l[i]? with
        | none => rw [hb2] at hi; cases hi
        | some b =>
          rw [hb2] at hi
          injection hi with hi
          subst hi
          have hj0 : j = 0 := by
            have := (List.getElem?_eq_some_iff.1 hj).1
            simpa using this
          subst hj0
          simp at hj
          subst hj
          obtain ⟨h4, h5⟩ := List.getElem?_eq_some_iff.1 hb2
          rw [dif_pos (by omega), h5]
          exact .sc _
theorem ret_s {F : Nat → Prop} {w : World} {l : List UInt8} {f : FuncId} {vs : Array Value} (hF : ∀ b, w.heap.size ≤ b → F b) (h : Calls Tryz.prog f vs w (RetB w l)) : Calls Tryz.prog f vs w fun e w' => ∃ v r, e = .returned v ∧ RepR F w.heap.size w' v r ∧ Below w.heap.size w w' ∧ r = .s (.sl (byA l)) :=
  h.mono fun e w' ⟨A, n, c, he, ho, hb⟩ => ⟨_, .s (.sl (byA l)), he, own_repS ho hF, hb, rfl⟩
def i64R (n : Int) : Prop := -9223372036854775808 ≤ n ∧ n ≤ 9223372036854775807
section
variable (l : List UInt8) (f z : Int) (hl : l.length ≤ 70368744177664) (hf : i64R f) (hz : i64R z)
include hf hz
theorem cput_s (hl : l.length ≤ 70368744177664) : AC Tryz.prog 93 [.sl (byA l), .sc (.int .i64 f), .sc (.int .i64 z)] (fun r => r = .s (.sl (byA (l ++ putN f z)))) := fun F w vs hs hF hr => by
  obtain ⟨v0, v1, v2, rfl⟩ := vs3 hs
  obtain ⟨A, c, rfl, h1, h2, h3⟩ := rep_bytes (hr 0 v0 _ rfl rfl)
  obtain rfl := (hr 1 v1 _ rfl rfl).of_sc
  obtain rfl := (hr 2 v2 _ rfl rfl).of_sc
  exact ret_s hF (put_any A l.length c l f z w h1 hl hf.1 hf.2 hz.1 hz.2)
end
theorem cright_c (f : Int) : AC Tryz.prog 20 [.sc (.int .i64 f)] (fun r => r = .s (.sc (.bool (f == 1 || f == 2)))) := fun F w vs hs _ hr => by
  obtain ⟨v0, rfl⟩ : ∃ a, vs = #[a] := ⟨vs[0]'(by rw [hs]; exact Nat.zero_lt_one), by apply Array.ext; simpa using hs; intro i h1 h2; match i, h2 with | 0, _ => rfl⟩
  obtain rfl := (hr 0 v0 _ rfl rfl).of_sc
  refine (right_any f w).mono fun e w' he => ?_; obtain ⟨rfl, rfl⟩ := he; exact ⟨_, .s _, rfl, .sc _, Below.refl _ _, rfl⟩
end Go.Proofs.YtlapcfnmmpbeeaaGreat
namespace Go.Proofs.YtlapcfnmmpbeeaaGreat
open Go.RowKit
theorem ADB.cut {P : Program} {l : List Oper} {K : List AV → List TK → Prop} {fuel fuel2 : Nat} {listed listed2 : Array Bool} {t t2 : List AV} {st st2 : List TK} (h : ADB P l K fuel2 listed2 t2 st2 → ADB P l K fuel listed t st) (key : ADB P l K fuel2 listed2 t2 st2) : ADB P l K fuel listed t st := h key
theorem ADB.use {P : Program} {l : List Oper} {K : List AV → List TK → Prop} {fuel fuel2 : Nat} {listed listed2 : Array Bool} {t t2 : List AV} {st st2 : List TK} (key : ADB P l K fuel2 listed2 t2 st2) (hf : fuel = fuel2 := by rfl) (hl : listed = listed2 := by kernel_rfl) (ht : t = t2 := by rfl) (hs : st = st2 := by rfl) : ADB P l K fuel listed t st := by
  subst hf hl ht hs
  exact key
end Go.Proofs.YtlapcfnmmpbeeaaGreat
