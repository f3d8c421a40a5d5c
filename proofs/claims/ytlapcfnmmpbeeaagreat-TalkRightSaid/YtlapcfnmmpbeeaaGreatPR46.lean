/- Texts of the proof of talkRight_holds, put together by a program: TkS TkT. -/
import Derived.Test.YtlapcfnmmpbeeaaGreatPR44
import Derived.Test.YtlapcfnmmpbeeaaGreatPR45
set_option linter.unusedSimpArgs false
set_option linter.unusedVariables false
namespace Go.Proofs.YtlapcfnmmpbeeaaGreat
set_option maxRecDepth 100000
open Go.RowKit
inductive RawL (M : RM) : List Value → List AV → Prop
  | nil : RawL M [] []
  | cons {u : Value} {y : AV} {us : List Value} {ys : List AV} (h1 : u.oneCell' = true) (h : RawS M u y) (t : RawL M us ys) : RawL M (u :: us) (y :: ys)
theorem RawL.mt {M : RM} {us : List Value} {ys : List AV} (h : RawL M us ys) : MtL M (us.map AV.sc) ys := by
  induction h with
  | nil => exact .nil
  | cons h1 h _ ih => exact .cons (.inr ⟨_, rfl, h1, h⟩) ih
theorem RawL.of {M : RM} : ∀ {us : List Value} {ys : List AV}, us.length = ys.length → (∀ (j : Nat) u y, us[j]? = some u → ys[j]? = some y → u.oneCell' = true ∧ RawS M u y) → RawL M us ys
  | [], [], _, _ => .nil
  | [], _ :: _, h, _ => by cases h
  | _ :: _, [], h, _ => by cases h
  | u :: us, y :: ys, h, k => .cons (k 0 u y rfl rfl).1 (k 0 u y rfl rfl).2 (RawL.of (by simpa using h) fun j v z h1 h2 => k (j + 1) v z h1 h2)
theorem ACo.rag {P : Program} {f : FuncId} {args : List AV} {os : List TK} {G : Nat} {ds : List AV} {X : RM → Prop} (h : ACo P f args os (fun y os' => ∃ cs M', y = .ag cs ∧ os' = [⟨G, .obj (RawP M')⟩] ∧ MtL M' cs ds ∧ X M')) : ACo P f args os (fun y os' => ∃ us M', y = .ag (us.map AV.sc) ∧ os' = [⟨G, .obj (RawP M')⟩] ∧ RawL M' us ds ∧ X M') := fun F ρ w vs h1 h2 h3 =>
  (h F ρ w vs h1 h2 h3).mono fun _ w1 ⟨v, y, ρ', os', a, b, c, d, e, f, g⟩ => by
    obtain ⟨cs, M', rfl, rfl, g3, g4⟩ := g
    obtain ⟨ws, rfl, k1, k2, k3⟩ := f.ag_inv
    have key : ∀ (j : Nat) u z, ws[j]? = some u → ds[j]? = some z → u.oneCell' = true ∧ RawS M' u z := fun j u z hu hz => by
      obtain ⟨q, q1, q2⟩ := g3.get hz
      have hr := k3 j u q hu q1
      refine ⟨k2 u (Array.mem_of_getElem? hu), ?_⟩
      rcases q2 with ⟨rfl, rfl⟩ | ⟨u', rfl, _, q3⟩
      · obtain ⟨A, cc, rfl, _, hcc⟩ := hr.sl_s.sl_inv
        exact .sl0 A cc hcc
      · rw [hr.of_sc]; exact q3
    refine ⟨_, .ag (ws.toList.map AV.sc), ρ', _, a, b, c, d, ?_, .ag ws _ (by simp) k2 fun j u z hu hz => ?_, ws.toList, M', rfl, rfl, RawL.of (by rw [Array.length_toList, k1, g3.len]) fun j u z hu hz => key j u z (by simpa using hu) hz, g4⟩
    · show (ws.toList.map AV.sc).all (okC _) = true
      rw [List.all_eq_true]
      intro x hx; obtain ⟨u, _, rfl⟩ := List.mem_map.1 hx; rfl
    · rw [List.getElem?_map, Array.getElem?_toList, hu] at hz
      injection hz with hz
      subst hz
      exact .sc u
theorem ACo.rsl {P : Program} {f : FuncId} {args : List AV} {os : List TK} {G : Nat} {d : AV} {X : RM → Prop} (h : ACo P f args os (fun y os' => ∃ M', os' = [⟨G, .obj (RawP M')⟩] ∧ Mt M' y d ∧ X M')) : ACo P f args os (fun y os' => ∃ u M', y = .sc u ∧ os' = [⟨G, .obj (RawP M')⟩] ∧ u.oneCell' = true ∧ RawS M' u d ∧ X M') := fun F ρ w vs h1 h2 h3 =>
  (h F ρ w vs h1 h2 h3).mono fun _ w1 ⟨v, y, ρ', os', a, b, c, d, e, f, g⟩ => by
    obtain ⟨M', rfl, g3, g4⟩ := g
    rcases g3 with ⟨rfl, rfl⟩ | ⟨u, rfl, g5, g6⟩
    · obtain ⟨A, cc, rfl, _, hcc⟩ := f.sl_s.sl_inv
      exact ⟨_, .sc (.slice A 0 cc), ρ', _, a, b, c, d, rfl, .sc _, _, M', rfl, rfl, rfl, .sl0 A cc hcc, g4⟩
    · exact ⟨v, .sc u, ρ', _, a, b, c, d, e, f, u, M', rfl, rfl, g5, g6, g4⟩
end Go.Proofs.YtlapcfnmmpbeeaaGreat
namespace Go.Proofs.YtlapcfnmmpbeeaaGreat
set_option maxRecDepth 100000
open Go.RowKit
section
variable {P : Program} {o : Oper} {t : List AV} {st : List TK} {x y : Operand}
theorem run_snil {xt : TypeId} {e : TypeId} (hu : P.underlying xt = some (.slice e)) (A : Option Addr) (n c : Nat) (w : World) : (Op.equal xt (.slice A n c) (.slice none 0 0)).run P w = .ok A.isNone w := by
  unfold Op.equal Op.maxDepth
  rw [show (10000 : Nat) = 9999 + 1 from rfl]
  unfold Op.equalIn
  simp only [Sem.run_bind, run_underlying hu, Result.andThen_ok]
  cases A <;> rfl
theorem rd_snil_v {xt yt e m n c : Nat} {A : Option Addr} (ho : o.op = .binOp .eql xt x y yt) (hT : elT P xt = some (e, m)) (hx : evV t x = some (.slice A n c)) (hy : evV t y = some (.slice none 0 0)) : ARd P o t st (AB A.isNone) := fun F ρ w0 w a hs hm => by
  obtain ⟨hu, _⟩ := el_under hT
  refine ⟨_, .sc _, fun w' _ => ?_⟩; simp [execOp, ho, hm.val hx, hm.val hy, eqGuard, binOp, Sem.run_bind, run_snil hu]
theorem rd_snil_c {xt yt e m : Nat} {xs : List (List AV)} (ho : o.op = .binOp .eql xt x y yt) (hT : elT P xt = some (e, m)) (hx : evA t x = .sl xs) (h0 : 0 < xs.length) (hy : evV t y = some (.slice none 0 0)) : ARd P o t st (AB false) := fun F ρ w0 w a hs hm => by
  obtain ⟨hu, _⟩ := el_under hT
  have h := hm.ev x
  rw [hx] at h
  have h := h.sl_s
  obtain ⟨b, n, c, hv⟩ : ∃ b n c, a.eval x = .slice (some b) n c := by
    generalize a.eval x = v at h
    cases h with
    | sl0 => exact absurd h0 (by simp)
    | sl1 b off n c => exact ⟨_, _, _, rfl⟩
  refine ⟨_, .sc _, fun w' _ => ?_⟩; simp [execOp, ho, hv, hm.val hy, eqGuard, binOp, Sem.run_bind, run_snil hu]
theorem src_v0 {sz c : Nat} {A : Option Addr} (hx : evV t x = some (.slice A 0 c)) : Src t st x sz [] := fun F ρ w0 w a hs hm =>
  ⟨A, c, [], hm.val hx, by simp, by simp, fun i j cs v z h => by simp at h, fun i cs h => by simp at h, fun _ => rfl, fun j v h => by simp at h⟩
theorem ACo.arg0 {f : FuncId} {os : List TK} {R : AV → List TK → Prop} (h : ∀ A c, c ≤ maxLen → ACo P f [.sc (.slice A 0 c)] os R) : ACo P f [.sl []] os R := fun F ρ w vs h1 h2 h3 => by
  have h0 : vs[0]? = some (vs[0]'(by rw [h1]; decide)) := Array.getElem?_eq_getElem _
  obtain ⟨A, c, hv, _, hc⟩ := (h3 0 _ _ h0 rfl).sl_s.sl_inv
  refine h A c hc F ρ w vs h1 h2 fun j v x hj hx => ?_
  match j with
  | 0 => rw [h0] at hj; injection hj with hj; injection hx with hx; subst hj hx; rw [hv]; exact .sc _
  | j + 1 => cases hx
end
end Go.Proofs.YtlapcfnmmpbeeaaGreat
