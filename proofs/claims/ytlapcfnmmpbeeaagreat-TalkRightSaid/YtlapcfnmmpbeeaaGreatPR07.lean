/- Texts of the proof of talkRight_holds, put together by a program: FldA Stx OwS Fre PlV OwN. -/
import Derived.Laws.StructEq
import Derived.Test.YtlapcfnmmpbeeaaGreatPR06
set_option linter.unusedSimpArgs false
set_option linter.unusedVariables false
namespace Go.Proofs.YtlapcfnmmpbeeaaGreat
open Go.RowKit
structure RefD where
  scope : Int
  group : Bytes
  name : Bytes
deriving DecidableEq
def RefD.cs (r : RefD) : List AV := [AI r.scope, AS r.group, AS r.name]
abbrev RefD.av (r : RefD) : AV := .ag r.cs
theorem eq_Ref (x y : Operand) (s1 s2 : Int) (g1 g2 n1 n2 : Bytes) (w : World) : (eqGuard .eql 36 x y (.agg #[.int .i64 s1, sv g1, sv n1]) (.agg #[.int .i64 s2, sv g2, sv n2]) >>= fun _ => binOp .eql 36 (.agg #[.int .i64 s1, sv g1, sv n1]) (.agg #[.int .i64 s2, sv g2, sv n2])).run Tryz.prog w = .ok (.bool (decide (RefD.mk s1 g1 n1 = RefD.mk s2 g2 n2))) w := by
  go_simp
  by_cases h1 : s1 = s2 <;> by_cases h2 : g1 = g2 <;> by_cases h3 : n1 = n2 <;> simp [h1, h2, h3]
section
variable {o : Oper} {t : List AV} {st : List TK} {x y : Operand} {yt : TypeId} {s1 s2 : Int} {g1 g2 n1 n2 : Bytes}
theorem rd_eq_Ref (ho : o.op = .binOp .eql 36 x y yt) (hx : evV t x = some (.agg #[.int .i64 s1, sv g1, sv n1])) (hy : evV t y = some (.agg #[.int .i64 s2, sv g2, sv n2])) : ARd Tryz.prog o t st (AB (decide (RefD.mk s1 g1 n1 = RefD.mk s2 g2 n2))) := rd_bin ho hx hy (eq_Ref x y s1 s2 g1 g2 n1 n2)
end
end Go.Proofs.YtlapcfnmmpbeeaaGreat
namespace Go.Proofs.YtlapcfnmmpbeeaaGreat
open Go.RowKit
theorem ADX.stor {kx : Nat} {P : Program} {l : List Oper} {K : List AV → List TK → Prop} {o : Oper} {x y : Operand} {z : AV} {zs : List AV} {t : List AV} {st : List TK} {fuel : Nat} {listed : Array Bool} {ty bt : TypeId} {g off : Nat} {cs : List AV} (i : Nat) (hi : l[i]? = some o) (hr : Region.ready .any l.toArray listed = [i]) (hw : WantA l.toArray o t true)
    (ho : o.op = .store ty x y) (hx : evA t x = .bx kx g off) (hk : st[kx]? = some ⟨g, .box bt cs⟩) (hy : evA t y = z) (hz : z.cells? = some zs) (hT : szT P ty = some zs.length)
    (h : ADX kx P l K fuel (listed.setIfInBounds i true) (putA t o.dst (.sc undef)) (st.set kx ⟨g, .box bt (splA cs off zs)⟩)) (hle : off + zs.length ≤ cs.length := by exact Nat.le_of_ble_eq_true rfl) (hl : liveA st z = true := by rfl) : ADX kx P l K (fuel + 1) listed t st := ADX.store i hi hr hw ho hx hk hy hz hl hT hle h
end Go.Proofs.YtlapcfnmmpbeeaaGreat
namespace Go.Proofs.YtlapcfnmmpbeeaaGreat
open Go.RowKit
section
variable {P : Program} {o : Oper} {t : List AV} {st : List TK} {x y : Operand} {z : AV} {zs : List AV} {F : Nat → Prop} {ρ : Loc} {w : World} {v : Value} {k g off el sz : Nat} {xs : List (List AV)}
theorem Rep.bo_inv (h : Rep F ρ st w v (.bx k g off)) (hk : st[k]? = some ⟨g, .own el sz xs⟩) : v = .pointer (some ⟨(ρ k).1, off, none⟩) := by
  cases h with
  | s h => cases h
  | bx => rfl
  | ob => rfl
  | bo => rfl
  | bxd _ _ _ _ hst =>
    obtain ⟨tk, h1, h2⟩ := hst
    rw [hk] at h1
    injection h1 with h1
    subst h1
    rcases h2 with h2 | ⟨_, h2⟩
    · exact absurd h2 (Nat.lt_irrefl _)
    · cases h2
theorem own_cur {b n c : Nat} {vs : List Value} (h : w.ownsRow 0 el sz (.slice (some ⟨b, 0, none⟩) n c) n vs) : ∃ cur, w.heap[b]? = some (.cells cur el (0, 0)) ∧ n ≤ c ∧ cur.size = c * sz ∧ cur.toList.take (n * sz) = vs ∧ vs.length = n * sz := by
  obtain ⟨hl, h⟩ := h
  rcases h with ⟨e, _⟩ | ⟨g', cap, cur, e, _, hg, hn, _, hs, ht⟩
  · cases e
  · injection e with e1 _ e3
    injection e1 with e1
    injection e1 with e1
    subst e1 e3
    exact ⟨cur, hg, hn, hs, ht, hl⟩
theorem rd_iaddr_ow {T e n : Nat} {ik : IntKind} {I : Int} (ho : o.op = .indexAddr T x y) (hT : elT P T = some (e, sz)) (hx : evA t x = .ow k g) (hk : st[k]? = some ⟨g, .own el sz xs⟩) (hy : evV t y = some (.int ik I)) (hI : I = (n : Int)) (hn : n < xs.length) : ARd P o t st (.bx k g (n * sz)) := fun F ρ w0 w a hs hm => by
  subst hI
  have h := hm.ev x
  rw [hx] at h
  have hq := h.ow_inv hk
  obtain ⟨hu, inf, hi1, hi2⟩ := el_under hT
  refine ⟨.pointer (some ⟨(ρ k).1, n * sz, none⟩), .bo k g _ el sz xs hk, fun w' _ => ?_⟩
  have hnm : (n : Int) < xs.length := by omega
  simp only [execOp, ho, Instr.indexAt, hq, hm.val hy, Sem.run_bind, asIntOf, Sem.run_pure, Result.andThen_ok, run_underlying hu]
  simp [hnm, sizeOf, typeInfo, hi1, hi2, Addr.add_mid]
end
end Go.Proofs.YtlapcfnmmpbeeaaGreat
namespace Go.Proofs.YtlapcfnmmpbeeaaGreat
set_option maxRecDepth 100000
open Go.RowKit
def flB : AV → Bool
  | .sc _ => true
  | .sl _ => true
  | _ => false
theorem Rep.flB_s {F : Nat → Prop} {ρ : Loc} {st : List TK} {w : World} {v : Value} {x : AV} (hx : flB x = true) (h : Rep F ρ st w v x) : RepS (Free F ρ st) w v x := by
  cases h with
  | s h => exact h
  | _ => cases hx
theorem St.freebox {F : Nat → Prop} {ρ : Loc} {st : List TK} {w0 : Bs} {w : World} (hs : St F ρ st w0 w) {k g ty : Nat} {cs : List AV} (hk : st[k]? = some ⟨g, .box ty cs⟩) (h0 : 0 < cs.length) (hc : cs.all flB = true) : St F ρ (st.set k ⟨g, .off⟩) w0 w ∧ Mv F ρ st w ρ (st.set k ⟨g, .off⟩) w ∧ ∀ v off, Rep F ρ st w v (.bx k g off) → Rep F ρ (st.set k ⟨g, .off⟩) w v (.ep cs off) := by
  have hklt := (List.getElem?_eq_some_iff.1 hk).1
  have hmv : Mv F ρ st w ρ (st.set k ⟨g, .off⟩) w := Mv.upd hk (fun _ _ => rfl) (fun b o hf ho => ⟨fun h => h, ho⟩) (.inr (.inr (.inl ⟨rfl, rfl⟩)))
  have hfr : ∀ b, Free F ρ st b → Free F ρ (st.set k ⟨g, .off⟩) b := fun b hf => ⟨hf.1, fun j q hq hb => by
    rcases get_set hklt hq with ⟨rfl, rfl⟩ | ⟨_, h'⟩
    · exact hb
    · exact hf.2 j q h' hb⟩
  refine ⟨hs.upd hk (fun _ _ => rfl) hs.below (Nat.le_refl _) hmv (fun _ _ _ _ _ _ => rfl) (fun b hf => hf.elim) (fun j q b hj hq hf hf' => hf') (fun ty cs e => by cases e) (fun el' sz' xs' e => by cases e) (fun p e => by cases e), hmv, fun v off hr => ?_⟩; rw [hr.bx_inv hk]; obtain ⟨vs, h1, h2, h3, h4⟩ := hs.box k g ty cs hk
  have hge := hs.geB k _ hk (by simp)
  have hcell : ∀ j (hj : j < cs.length), w.cell? ⟨(ρ k).1, 0 + j, none⟩ = some (vs[j]'(by omega)) := fun j hj => by
    rw [Nat.zero_add, cell_of_row _ _ _ _ _ _ h1, Array.getElem?_eq_getElem]
  have := Rep.ep (F := F) (ρ := ρ) (st := st.set k ⟨g, .off⟩) (w := w) (ρ k).1 0 off cs (fun j => vs.getD j (.bool false)) h0 ⟨hge.1.2, fun j tk hj hb => by
      rcases get_set hklt hj with ⟨rfl, rfl⟩ | ⟨hne, hj'⟩
      · exact hb
      · exact hne (hs.inj j tk k _ _ hj' hb hk rfl)⟩ (fun j hj => by rw [hcell j hj]; simp [Array.getD, show j < vs.size by omega]) (fun j => by
      by_cases hj : j < vs.size
      · simp only [Array.getD, hj, dif_pos]; exact h3 _ (Array.getElem_mem hj)
      · simp only [Array.getD, hj, dif_neg, not_false_iff]; rfl) (fun j x hx => by
      have hj := (List.getElem?_eq_some_iff.1 hx).1
      have hfx : flB x = true := List.all_eq_true.1 hc x (List.mem_of_getElem? hx)
      have := (h4 j (vs[j]'(by omega)) x (Array.getElem?_eq_getElem (by omega)) hx).flB_s hfx
      rw [show vs.getD j (.bool false) = vs[j]'(by omega) by simp [Array.getD, show j < vs.size by omega]]
      exact this.mono fun b _ hb => hfr b hb)
  rw [Nat.zero_add] at this
  exact this
theorem AW.freebox {P : Program} {c : Code} {Q : APost} {t : List AV} {st : List TK} (d : Nat) {k g off ty : Nat} {cs : List AV} (hd : t[d]? = some (.bx k g off)) (hk : st[k]? = some ⟨g, .box ty cs⟩) (h0 : 0 < cs.length) (hc : cs.all flB = true) (h : AW P c Q (t.set d (.ep cs off)) (st.set k ⟨g, .off⟩)) : AW P c Q t st := fun F ρ w0 w a hs hm => by
  obtain ⟨h1, h2, h3⟩ := hs.freebox hk h0 hc
  refine h F ρ w0 w a h1 ?_
  have hm' := hm.mv h2
  refine ⟨hm'.defers, by simp [hm'.size], fun i v x hv hx => ?_⟩; rw [List.getElem?_set] at hx
  split at hx
  · rename_i e
    subst e
    split at hx
    · injection hx with hx
      subst hx
      exact h3 v off (hm.rep _ v _ hv hd)
    · cases hx
  · exact hm'.rep i v x hv hx
section
variable {P : Program} {o : Oper} {t : List AV} {st : List TK} {x y : Operand} {zs : List AV} {k g off el sz : Nat} {xs : List (List AV)}
theorem rd_loadN_bo {ty n : Nat} (i : Nat) (ho : o.op = .load ty x) (hT : agN P ty = some (some n)) (hx : evA t x = .bx k g off) (hk : st[k]? = some ⟨g, .own el sz xs⟩) (hoff : off = i * sz) (hn : n = sz) (hi : xs[i]? = some zs) : ARd P o t st (.ag zs) := fun F ρ w0 w a hs hm => by
  subst hn
  have h := hm.ev x
  rw [hx] at h
  have hv := h.bo_inv hk
  obtain ⟨vs, h1, h2, h3, h4, h5⟩ := hs.own k g el n xs hk
  obtain ⟨cur, c1, c2, c3, c4, c5⟩ := own_cur h1
  have hil := (List.getElem?_eq_some_iff.1 hi).1
  have hzl : zs.length = n := h4 i zs hi
  have hle : off + n ≤ xs.length * n := by
    subst hoff
    have : (i + 1) * n ≤ xs.length * n := Nat.mul_le_mul_right _ hil
    rw [Nat.succ_mul] at this
    omega
  have hvs : ∀ j, j < n → ∃ v, vs[off + j]? = some v ∧ cur[off + j]? = some v := fun j hj => by
    refine ⟨vs[off + j]'(by omega), List.getElem?_eq_getElem (by omega), ?_⟩
    have e : cur.toList[off + j]? = vs[off + j]? := by rw [← c4, List.getElem?_take, if_pos (by omega)]
    rw [List.getElem?_eq_getElem (show off + j < vs.length by omega)] at e
    rwa [Array.getElem?_toList] at e
  refine ⟨.agg ((vs.drop off).take n).toArray, .s (.ag _ _ ?_ ?_ ?_), fun w' hb => ?_⟩
  · simp; omega
  · intro v hv'
    have : v ∈ vs := List.mem_of_mem_drop (List.mem_of_mem_take (by simpa using hv'))
    exact h3 v this
  · intro j v x' hv' hx'; simp only [List.getElem?_toArray, List.getElem?_take, List.getElem?_drop] at hv'
    split at hv'
    · rename_i hj
      exact h5 i j zs v x' hi hx' (by rw [← hoff]; exact hv')
    · cases hv'
  · have := run_loadN (P := P) hT (b := (ρ k).1) (o := off) (w := w') (cs := (vs.drop off).take n) (by simp; omega) (fun j v hv' => by
      rw [hb.cell (p := ⟨(ρ k).1, off + j, none⟩) (Array.getElem?_eq_some_iff.1 c1).1, cell_of_row _ _ _ _ _ _ c1]
      simp only [List.getElem?_take, List.getElem?_drop] at hv'
      split at hv'
      · rename_i hj
        obtain ⟨u, u1, u2⟩ := hvs j hj
        rw [u2, ← u1]
        exact hv'
      · cases hv')
    simp only [execOp, ho, hv, Sem.run_bind, this, Result.andThen_ok, Sem.run_pure]
end
end Go.Proofs.YtlapcfnmmpbeeaaGreat
namespace Go.Proofs.YtlapcfnmmpbeeaaGreat
set_option maxRecDepth 100000
open Go.RowKit
set_option maxHeartbeats 2000000 in
theorem run_eq_vecD (d : Nat) (hu : ∀ a b : Int, ∀ w, (Op.equalIn d 3 (.int .i64 a) (.int .i64 b)).run Tryz.prog w = .ok (a == b) w) (a0 a1 a2 a3 a4 a5 b0 b1 b2 b3 b4 b5 : Int) (w : World) : (Op.equalIn (d + 1) 23 (.agg #[.int .i64 a0, .int .i64 a1, .int .i64 a2, .int .i64 a3, .int .i64 a4, .int .i64 a5]) (.agg #[.int .i64 b0, .int .i64 b1, .int .i64 b2, .int .i64 b3, .int .i64 b4, .int .i64 b5])).run Tryz.prog w = .ok (decide (a0 = b0 ∧ a1 = b1 ∧ a2 = b2 ∧ a3 = b3 ∧ a4 = b4 ∧ a5 = b5)) w := by
  have hs : ∀ w, (sizeOf 3).run Tryz.prog w = .ok 1 w := fun w => by go_simp
  have hg : ∀ w, (isAgg 3).run Tryz.prog w = .ok false w := fun w => by go_simp
  have hp : ∀ (xs : Array Value) (i : Nat) (v : Value) (w : World), xs[i]? = some v → (part 3 xs i).run Tryz.prog w = .ok v w := fun xs i v w h => by
    simp [part, Sem.run_bind, hg, h]
  simp only [Op.equalIn, Sem.run_bind, run_underlying Tryz.underlying23, Result.andThen_ok, hs]
  by_cases h0 : a0 = b0 <;> by_cases h1 : a1 = b1 <;> by_cases h2 : a2 = b2 <;> by_cases h3 : a3 = b3 <;> by_cases h4 : a4 = b4 <;> by_cases h5 : a5 = b5 <;> simp [Std.Legacy.Range.forIn_eq_forIn_range', Std.Legacy.Range.size, List.range', Sem.run_bind, hu, hp, h0, h1, h2, h3, h4, h5]
end Go.Proofs.YtlapcfnmmpbeeaaGreat
namespace Go.Proofs.YtlapcfnmmpbeeaaGreat
set_option maxRecDepth 100000
open Go.RowKit
theorem splV_get : ∀ (us : List Value) (vs : Array Value) (o j : Nat), o + us.length ≤ vs.size → (splV vs o us)[j]? = if o ≤ j ∧ j < o + us.length then us[j - o]? else vs[j]?
  | [], vs, o, j, _ => by
    rw [if_neg (by simp only [List.length_nil]; omega)]; rfl
  | u :: us, vs, o, j, h => by
    simp only [List.length_cons] at h
    show (splV (vs.setIfInBounds o u) (o + 1) us)[j]? = _
    rw [splV_get us _ (o + 1) j (by simp; omega)]
    simp only [List.length_cons, Array.getElem?_setIfInBounds]
    by_cases e : o = j
    · subst e
      rw [if_neg (by omega), if_pos rfl, if_pos (by omega), if_pos (by omega)]
      simp
    · by_cases q : o + 1 ≤ j ∧ j < o + 1 + us.length
      · rw [if_pos q, if_pos (by omega), show j - o = (j - (o + 1)) + 1 by omega]
        rfl
      · rw [if_neg q, if_neg e, if_neg (by omega)]
section
variable {P : Program} {o : Oper} {ops : Array Oper} {K : List AV → List TK → Prop} {l : List Oper} {t : List AV} {st : List TK} {x y : Operand} {z : AV} {zs : List AV} {k g off el sz : Nat} {xs : List (List AV)}
theorem seg_ne {i i' j sz : Nat} (hj : j < sz) (h : i' ≠ i) : ¬ (i * sz ≤ i' * sz + j ∧ i' * sz + j < i * sz + sz) := by
  rcases Nat.lt_or_gt_of_ne h with h | h
  · have := Nat.mul_le_mul_right sz (show i' + 1 ≤ i by omega)
    rw [Nat.succ_mul] at this
    omega
  · have := Nat.mul_le_mul_right sz (show i + 1 ≤ i' by omega)
    rw [Nat.succ_mul] at this
    omega
end
end Go.Proofs.YtlapcfnmmpbeeaaGreat
