/- A part of a proof. -/
import Derived.Test.YtlapcfnmmpbeeaaProg
import Derived.Test.YtlapcfnmmpbeeaaPT04
set_option linter.unusedSimpArgs false
set_option linter.unusedVariables false
namespace Go.Proofs.Ytlapcfnmmpbeeaa
open Go.RowKit
set_option maxRecDepth 100000
theorem Try.infoU8 : (Try.prog.info? 5).map (fun i => (i.zero, i.size, i.bytes)) = some (some (.int .u8 0), 1, 1) := by kernel_rfl
def OwnB (w : World) (base : Nat) (A : Option Addr) (n c : Nat) (l : List UInt8) : Prop := l.length = n ∧ w.ownsRow base 5 1 (.slice A n c) n (bvs l)
section
variable {w w' : World} {base n c : Nat} {A : Option Addr} {l : List UInt8}
theorem OwnB.len (h : OwnB w base A n c l) : l.length = n := h.1
theorem OwnB.nc (h : OwnB w base A n c l) : n ≤ c := by
  rcases h.2.2 with ⟨h1, _⟩ | ⟨g, cap, cur, h1, _, _, h2, _⟩
  · injection h1 with _ h1 h2; omega
  injection h1 with _ _ h1; omega
theorem OwnB.alloc (h : OwnB w base A n c l) (o : Obj) : OwnB (w.alloc o) base A n c l := ⟨h.1, h.2.alloc o⟩
theorem OwnB.lt (h : OwnB w base A n c l) : ∀ k, (Value.slice A n c).ownBlock = some k → base ≤ k ∧ k < w.heap.size := h.2.lt
end
theorem wp_app {o : Oper} {a : Act} {K : Act → World → Prop} {Q : Exit → Act → World → Prop} (w : World) (s x : Operand)
    (ho : o.op = .call { callee := .builtin .append, args := #[s, x], argTypes := #[35, 35] })
    (base : Nat) (A : Option Addr) (n c : Nat) (l : List UInt8) (hs : a.eval s = .slice A n c) (hown : OwnB w base A n c l)
    (A2 : Option Addr) (m c2 : Nat) (l2 : List UInt8) (hx : a.eval x = .slice A2 m c2) (hr : Rd w w.heap.size 1 A2 m (bvs l2))
    (hsz : n + m ≤ 140737488355328) (hbase : base ≤ w.heap.size)
    (h : ∀ A' c' w', OwnB w' base A' (n + m) c' (l ++ l2) → w.grownBy w' (Value.slice A n c).ownBlock → ((Value.slice A' (n + m) c').ownBlock = (Value.slice A n c).ownBlock ∨ (Value.slice A' (n + m) c').ownBlock = some w.heap.size) → K (a.put o.dst (.slice A' (n + m) c')) w') : o.wp Try.prog a w K Q := by
  obtain ⟨i, hi, hz0, hz1, hz2⟩ := info_parts Try.infoU8
  have key : ∃ v' w', (Builtin.append_ #[35, 35] o.type #[.slice A n c, .slice A2 m c2]).run Try.prog w = .ok v' w' ∧ w'.ownsRow base 5 1 v' (n + m) (bvs (l ++ l2)) ∧ w.grownBy w' (Value.slice A n c).ownBlock ∧
      (v'.ownBlock = (Value.slice A n c).ownBlock ∨ v'.ownBlock = some w.heap.size) := by
    rcases A2 with _ | ad
    · have hm : m = 0 := by
        rcases Nat.eq_zero_or_pos m with h0 | h0
        · exact h0
        obtain ⟨b, off, h', _⟩ := hr.2 h0
        cases h'
      subst hm
      have hl2 : l2 = [] := List.eq_nil_of_length_eq_zero hr.blen
      subst hl2
      refine ⟨.slice A n c, w, ?_, by simpa using hown.2, World.grownBy.refl w _, .inl rfl⟩
      have hnc := hown.nc
      rcases hown.2.2 with ⟨h1, h2⟩ | ⟨g, cap, cur, h1, _⟩
      · injection h1 with h1 h3 h4
        subst h1 h3 h4
        simp [Builtin.append_, run_underlying Try.underlying35, sizeOf, typeInfo, hi, Builtin.lenOf, Builtin.firstCells]
      injection h1 with h1 h3 h4
      subst h1 h4
      simp [Builtin.append_, run_underlying Try.underlying35, sizeOf, typeInfo, hi, Builtin.lenOf, Builtin.firstCells, hnc, storeCells]
    have hcells : ∀ j u, (bvs l2)[j]? = some u → w.cell? (ad.add j) = some u := by
      intro j u hu
      have hj := (List.getElem?_eq_some_iff.1 hu).1
      rw [bvs_len, hr.blen] at hj
      obtain ⟨b, off, h', _, hc⟩ := hr.2 (by omega)
      injection h' with h'
      subst h'
      have ha : (⟨b, off, none⟩ : Addr).add j = ⟨b, off + j, none⟩ := by unfold Addr.add; split <;> simp_all
      rw [ha, hc j (by rw [bvs_len, hr.blen]; omega), hu]
    obtain ⟨v', w', hrun, h2, h3, _, h5⟩ := run_append_own_at (P := Try.prog) w base 35 o.type 5 i (.int .u8 0) 1 1 Try.underlying35 hi hz0 hz1 hz2 rfl (by decide) _ n _ hown.2 ad m c2 (bvs l2) (by rw [bvs_len, hr.blen, Nat.mul_one]) hcells (bvs_one l2) (by unfold maxLen; omega) (by omega) hbase
    exact ⟨v', w', hrun, by rw [bvs_append]; exact h2, h3, h5⟩
  obtain ⟨v', w', hrun, h2, h3, h4⟩ := key
  have hex : ∃ A' c', v' = .slice A' (n + m) c' := by
    rcases h2.2 with ⟨h', h0⟩ | ⟨g, cap, cur, h', _⟩
    · exact ⟨none, 0, by rw [h', h0]⟩
    exact ⟨_, cap, h'⟩
  obtain ⟨A', c', rfl⟩ := hex
  unfold Oper.wp execOp
  simp only [ho, resolve, invoke, builtin, Sem.run_bind, Sem.run_pure, Result.andThen_ok, List.map_toArray, List.map_cons, List.map_nil, hs, hx, hrun]
  exact h A' c' w' ⟨by rw [List.length_append, hown.1, hr.blen], h2⟩ h3 h4
theorem wpList_app {ops : Array Oper} {rest : List Oper} {o : Oper} {a : Act} {Q : Exit → Act → World → Prop} (w : World) (hgd : o.guard = none) (s x : Operand)
    (ho : o.op = .call { callee := .builtin .append, args := #[s, x], argTypes := #[35, 35] })
    (base : Nat) (A : Option Addr) (n c : Nat) (l : List UInt8) (hs : a.eval s = .slice A n c) (hown : OwnB w base A n c l)
    (A2 : Option Addr) (m c2 : Nat) (l2 : List UInt8) (hx : a.eval x = .slice A2 m c2) (hr : Rd w w.heap.size 1 A2 m (bvs l2))
    (hsz : n + m ≤ 140737488355328) (hbase : base ≤ w.heap.size)
    (h : ∀ A' c' w', OwnB w' base A' (n + m) c' (l ++ l2) → w.grownBy w' (Value.slice A n c).ownBlock → ((Value.slice A' (n + m) c').ownBlock = (Value.slice A n c).ownBlock ∨ (Value.slice A' (n + m) c').ownBlock = some w.heap.size) → wpList Try.prog ops Q rest (a.put o.dst (.slice A' (n + m) c')) w') : wpList Try.prog ops Q (o :: rest) a w :=
  wpList_plain hgd fun _ hK => wp_app w s x ho base A n c l hs hown A2 m c2 l2 hx hr hsz hbase fun A' c' w' h1 h2 h3 => hK _ _ (h A' c' w' h1 h2 h3)
theorem Rd.one (w : World) (x : Int) (b : UInt8) (hx : x = (b.toNat : Nat)) : Rd (w.alloc (.cells #[.int .u8 x] 5)) (w.heap.size + 1) 1 (some ⟨w.heap.size, 0, none⟩) 1 (bvs [b]) := by
  subst hx
  have := Rd.laid w #[.int .u8 (b.toNat : Nat)] 5 (0, 0) 1 (bvs [b]) rfl rfl
  rwa [World.size_alloc] at this
theorem Rd.one' (w : World) (x : Int) (b : UInt8) (hx : x = (b.toNat : Nat)) : Rd (w.alloc (.cells #[.int .u8 x] 5)) (w.alloc (.cells #[.int .u8 x] 5)).heap.size 1 (some ⟨w.heap.size, 0, none⟩) 1 (bvs [b]) := by
  subst hx
  exact Rd.laid w #[.int .u8 (b.toNat : Nat)] 5 (0, 0) 1 (bvs [b]) rfl rfl
theorem low7 (u : Nat) (h : u < 18446744073709551616) : bits .or .u8 (bits .and .u64 (u : Int) 127 % 256) 128 = ((128 + u % 128 : Nat) : Int) := by
  have e1 : bits .and .u64 (u : Int) 127 = ((u % 128 : Nat) : Int) := by rw [← nat_mask7]; exact u64_and_nat u 127 h (by omega)
  rw [e1, show ((u % 128 : Nat) : Int) % 256 = ((u % 128 : Nat) : Int) by omega, show (128 : Int) = ((128 : Nat) : Int) from rfl, u8_or_nat _ _ (by omega) (by omega), Nat.or_comm, nat_join 7 128 (u % 128) (by decide) (by omega)]
theorem wpList_mk {ops : Array Oper} {rest : List Oper} {o : Oper} {a : Act} {Q : Exit → Act → World → Prop} (w : World) (hg : o.guard = none) (lo co : Operand) (hop : o.op = Op.makeSlice 35 lo co)
    (base : Nat) (kl kc : IntKind) (C : Int) (n : Nat) (hl : a.eval lo = .int kl 0) (hc : a.eval co = .int kc C) (hC : C = (n : Int)) (hn : n ≤ 140737488355328) (hbase : base ≤ w.heap.size)
    (hK : ∀ w', OwnB w' base (some ⟨w.heap.size, 0, none⟩) 0 n [] → w.grownBy w' none → wpList Try.prog ops Q rest (a.put o.dst (.slice (some ⟨w.heap.size, 0, none⟩) 0 n)) w') :
    wpList Try.prog ops Q (o :: rest) a w := by
  obtain ⟨i, hi, hz0, hz1, hz2⟩ := info_parts Try.infoU8
  exact wpList_make_own w hg lo co 35 hop base 5 i (.int .u8 0) 1 Try.underlying35 hi hz0 hz1 kl kc C n hl hc hC (by rw [hz2]; omega) (by unfold maxLen; omega) hbase
    fun w' h1 h2 => hK w' ⟨rfl, h1⟩ h2
def RetB (w : World) (l : List UInt8) (e : Ending) (w' : World) : Prop := ∃ A n c, e = .returned (.slice A n c) ∧ OwnB w' w.heap.size A n c l ∧ Below w.heap.size w w'
end Go.Proofs.Ytlapcfnmmpbeeaa
