/- strings.Split at a dot, walked over abstract states: the library's own text, but for the two functions of internal/bytealg that have no body (the model's entries). The text is of at most 1000 bytes. -/
import Derived.Test.YtpkjlmaphhileaaDoorOwN
import Derived.Test.YtpkjlmaphhileaaDoorTy
import Derived.Lib.Bytealg
import Derived.Lib.IndexLaws
namespace Go.Proofs.YtpkjlmaphhileaaDoor
set_option linter.unusedSimpArgs false
set_option linter.unusedVariables false
set_option maxRecDepth 100000
open Go.RowKit

section
variable {P : Program} {o : Oper} {t : List AV} {st : List TK} {x y : Operand}
/-- A function without a body, whose answer hangs on two plain values alone. -/
theorem rd_ext2 {f : FuncId} {Ts : Array TypeId} {vx vy v : Value} (ho : o.op = .call { callee := .value (.func f), args := #[x, y], argTypes := Ts }) (hx : evV t x = some vx) (hy : evV t y = some vy) (h : ∀ w, (callFunc f #[vx, vy]).run P w = .ok (.value v) w) : ARd P o t st (.sc v) := fun F ρ w0 w a hs hm => ⟨_, .sc _, fun w' _ => by
  have hz : (execOp a.eval o).run P w' = (callFunc f #[a.eval x, a.eval y]).run P w' := by simp [execOp, ho, resolve, Act.eval, Deferred.ofValue, invoke]
  rw [hz, hm.val hx, hm.val hy, h]⟩
end
theorem countS_run (l : List UInt8) (c : Int) (w : World) : (callFunc 74 #[sv l, .int .u8 c]).run Tryd.prog w = .ok (.value (.int .i64 (Lib.countByte l c.toNat.toUInt8))) w := by
  rw [run_callFunc_extern Tryd.func74 (by kernel_rfl) (by kernel_rfl) (by kernel_rfl) (e := Extern.BytealgCount.count) (by kernel_rfl), Lib.run_countString]
  rfl
theorem indexS_run (l : List UInt8) (c : Int) (w : World) : (callFunc 82 #[sv l, .int .u8 c]).run Tryd.prog w = .ok (.value (.int .i64 (Lib.indexByte l c.toNat.toUInt8))) w := by
  rw [run_callFunc_extern Tryd.func82 (by kernel_rfl) (by kernel_rfl) (by kernel_rfl) (e := Extern.BytealgIndexByte.indexByte) (by kernel_rfl), Lib.run_indexByteString]
  rfl

theorem count_c (l : Bytes) : AC Tryd.prog 65 [AS l, AS [46]] (fun r => r = .s (AI (Lib.countByte l 46 : Nat))) := by
  refine AC.of' 32 0 Tryd.func65 rfl ?_
  change AW _ _ _ _ []
  refine AW.seq ?_
  refine AW.region ?_
  refine AL.ra ?_
  refine AL.nil ?_
  change AW _ _ _ _ _
  refine AW.seq ?_
  refine AW.seq ?_
  refine AW.region ?_
  refine AL.rm ?_
  refine AL.r (rd_len_str rfl str_9 rfl) ?_
  refine AL.r (rd_bin rfl rfl rfl (fun _ => rfl)) ?_
  refine AL.nil ?_
  change AW _ _ _ _ _
  refine AW.cd rfl (fun h9 => ?_) (fun h9 => ?_)
  ·skip
   (simp at *)
  ·skip
   refine AW.skip ?_
   change AW _ _ _ _ _
   refine AW.seq ?_
   refine AW.seq ?_
   refine AW.region ?_
   refine AL.rm ?_
   refine AL.r (rd_len_str rfl str_9 rfl) ?_
   refine AL.r (rd_bin rfl rfl rfl (fun _ => rfl)) ?_
   refine AL.nil ?_
   change AW _ _ _ _ _
   refine AW.cd rfl (fun h15 => ?_) (fun h15 => ?_)
   ·skip
    refine AW.seq ?_
    refine AW.region ?_
    refine AL.rm ?_
    refine AL.rm ?_
    refine AL.r (rd_index_str rfl str_9 rfl rfl (rfl) (show ([46] : List UInt8)[0]? = some 46 from rfl)) ?_
    refine AL.r (rd_ext2 rfl rfl rfl (countS_run _ _)) ?_
    refine AL.ra ?_
    refine AL.nil ?_
    change AW _ _ _ _ _
    refine AW.ret ?_
    change ResA _ _ _ _ _
    refine res1 rfl (ResV.tmp rfl) rfl ?_
    rfl
   ·skip
    (simp at *)
theorem iByte_c (l : Bytes) : AC Tryd.prog 78 [AS l, .sc (.int .u8 46)] (fun r => r = .s (AI (Lib.indexByte l 46))) := by
  refine AC.of' 6 0 Tryd.func78 rfl ?_
  change AW _ _ _ _ []
  refine AW.seq ?_
  refine AW.region ?_
  refine AL.ra ?_
  refine AL.nil ?_
  change AW _ _ _ _ _
  refine AW.seq ?_
  refine AW.region ?_
  refine AL.rm ?_
  refine AL.rm ?_
  refine AL.r (rd_ext2 rfl rfl rfl (indexS_run _ _)) ?_
  refine AL.ra ?_
  refine AL.nil ?_
  change AW _ _ _ _ _
  refine AW.ret ?_
  change ResA _ _ _ _ _
  refine res1 rfl (ResV.tmp rfl) rfl ?_
  rfl
theorem sIndex_c (l : Bytes) : AC Tryd.prog 75 [AS l, AS [46]] (fun r => r = .s (AI (Lib.indexByte l 46))) := by
  refine AC.of' 141 0 Tryd.func75 rfl ?_
  change AW _ _ _ _ []
  refine AW.seq ?_
  refine AW.region ?_
  refine AL.ra ?_
  refine AL.nil ?_
  change AW _ _ _ _ _
  refine AW.seq ?_
  refine AW.region ?_
  refine AL.rm ?_
  refine AL.r (rd_len_str rfl str_9 rfl) ?_
  refine AL.ra ?_
  refine AL.nil ?_
  change AW _ _ _ _ _
  refine AW.seq ?_
  refine AW.block ?_
  refine AW.seq ?_
  refine AW.region ?_
  refine AL.rm ?_
  refine AL.r (rd_bin rfl rfl rfl (fun _ => rfl)) ?_
  refine AL.rm ?_
  refine AL.fk (d := 19) rfl (fun h19 => ?_) (fun h19 => ?_)
  ·skip
   refine AL.n ?_
   refine AL.rf ?_
   refine AL.rf ?_
   refine AL.rf ?_
   refine AL.r (rd_pick_t rfl rfl rfl) ?_
   refine AL.ra ?_
   refine AL.nil ?_
   change AW _ _ _ _ _
   refine AW.cond_t rfl ?_
   refine AW.seq ?_
   refine AW.region ?_
   refine AL.ra ?_
   refine AL.nil ?_
   change AW _ _ _ _ _
   refine AW.ret ?_
   change ResA _ _ _ _ _
   refine res1 rfl (ResV.tmp rfl) rfl ?_
   (have e : l = [46] := by simp_all); subst e; rfl
  ·skip
   refine AL.n ?_
   refine AL.ro (rd_move rfl rfl) ?_
   refine AL.ro (rd_move rfl rfl) ?_
   refine AL.ro (rd_seq rfl rfl rfl) ?_
   refine AL.r (rd_pick_f rfl rfl rfl) ?_
   refine AL.ra ?_
   refine AL.nil ?_
   change AW _ _ _ _ _
   refine AW.cd rfl (fun h16 => ?_) (fun h16 => ?_)
   ·skip
    refine AW.seq ?_
    refine AW.region ?_
    refine AL.ra ?_
    refine AL.nil ?_
    change AW _ _ _ _ _
    refine AW.ret ?_
    change ResA _ _ _ _ _
    refine res1 rfl (ResV.tmp rfl) rfl ?_
    (have e : l = [46] := by simp_all); subst e; rfl
   ·skip
    refine AW.seq ?_
    refine AW.region ?_
    refine AL.rm ?_
    refine AL.r (rd_bin rfl rfl rfl (fun _ => rfl)) ?_
    refine AL.ra ?_
    refine AL.nil ?_
    change AW _ _ _ _ _
    refine AW.cd rfl (fun h24 => ?_) (fun h24 => ?_)
    ·skip
     refine AW.seq ?_
     refine AW.region ?_
     refine AL.rm ?_
     refine AL.rm ?_
     refine AL.r (rd_index_str rfl str_9 rfl rfl (rfl) (show ([46] : List UInt8)[0]? = some 46 from rfl)) ?_
     refine AL.op rfl (AOpB.op (op_call (iByte_c _) rfl (by kernel_rfl) rfl (none) ?_))
     rintro r rfl
     refine AL.n ?_
     refine AL.ra ?_
     refine AL.nil ?_
     change AW _ _ _ _ _
     refine AW.ret ?_
     change ResA _ _ _ _ _
     refine res1 rfl (ResV.tmp rfl) rfl ?_
     rfl
    ·skip
     (simp at *)
theorem index_dot (l : Bytes) : AC Tryd.prog 66 [AS l, AS [46]] (fun r => r = .s (AI (Lib.indexByte l 46))) := by
  refine AC.of' 6 0 Tryd.func66 rfl ?_
  change AW _ _ _ _ []
  refine AW.seq ?_
  refine AW.region ?_
  refine AL.ra ?_
  refine AL.nil ?_
  change AW _ _ _ _ _
  refine AW.seq ?_
  refine AW.region ?_
  refine AL.rm ?_
  refine AL.rm ?_
  refine AL.op rfl (AOpB.op (op_call (sIndex_c _) rfl (by kernel_rfl) rfl (none) ?_))
  rintro r rfl
  refine AL.n ?_
  refine AL.ra ?_
  refine AL.nil ?_
  change AW _ _ _ _ _
  refine AW.ret ?_
  change ResA _ _ _ _ _
  refine res1 rfl (ResV.tmp rfl) rfl ?_
  rfl

/-! The pieces of a text. -/
def spl : Bytes → List Bytes
  | [] => [[]]
  | c :: l => if c = 46 then [] :: spl l else match spl l with | p :: ps => (c :: p) :: ps | [] => [[c]]
theorem spl_ne : ∀ l : Bytes, spl l ≠ []
  | [] => by simp [spl]
  | c :: l => by
    unfold spl
    split
    · simp
    · split <;> simp
theorem spl_len : ∀ l : Bytes, (spl l).length = Lib.countByte l 46 + 1
  | [] => rfl
  | c :: l => by
    have ih := spl_len l
    unfold spl Lib.countByte
    rw [List.count_cons]
    by_cases h : c = 46
    · subst h
      simp only [if_true, List.length_cons, ih, beq_self_eq_true]
      rfl
    · rw [if_neg h]
      have h2 : (c == 46) = false := by simpa using h
      rw [h2]
      simp only [Bool.false_eq_true, if_false, Nat.add_zero]
      cases e : spl l with
      | nil => exact absurd e (spl_ne l)
      | cons p ps =>
        rw [e] at ih
        have ih' : ps.length = List.count 46 l := by simpa [Lib.countByte] using ih
        simp [ih']
theorem spl_at : ∀ (l : Bytes) (m : Nat), Lib.indexByte l 46 = (m : Int) → m < l.length ∧ spl l = l.take m :: spl (l.drop (m + 1)) ∧ Lib.countByte (l.drop (m + 1)) 46 + 1 = Lib.countByte l 46
  | [], m, h => by simp [Lib.indexByte] at h
  | c :: l, m, h => by
    unfold Lib.indexByte at h
    by_cases hc : c = 46
    · subst hc
      obtain rfl : m = 0 := by simp at h; omega
      exact ⟨by simp, by simp [spl], by simp [Lib.countByte]⟩
    · have h2 : (c == 46) = false := by simpa using hc
      rw [h2] at h
      simp only [Bool.false_eq_true, if_false] at h
      split at h
      · omega
      · have hg := Lib.indexByte_ge l 46
        rename_i hn
        have hn' : Lib.indexByte l 46 ≠ -1 := by simpa using hn
        obtain ⟨m', rfl⟩ : ∃ m', m = m' + 1 := ⟨m - 1, by omega⟩
        obtain ⟨h3, h4, h5⟩ := spl_at l m' (by omega)
        refine ⟨by simp; omega, ?_, ?_⟩
        · rw [spl, if_neg hc, h4]
          simp
        · unfold Lib.countByte at h5 ⊢
          rw [List.count_cons, h2]
          simpa using h5
theorem spl_no : ∀ (l : Bytes), Lib.indexByte l 46 < 0 → Lib.countByte l 46 = 0
  | [], _ => rfl
  | c :: l, h => by
    unfold Lib.indexByte at h
    have hg := Lib.indexByte_ge l 46
    by_cases hc : c = 46
    · subst hc; simp at h
    · have h2 : (c == 46) = false := by simpa using hc
      rw [h2] at h
      simp only [Bool.false_eq_true, if_false] at h
      have : Lib.indexByte l 46 < 0 := by
        split at h
        · rename_i e; have e' : Lib.indexByte l 46 = -1 := by simpa using e
          omega
        · omega
      have ih := spl_no l this
      unfold Lib.countByte at ih ⊢
      rw [List.count_cons, h2, ih]
      rfl
theorem spl_zero : ∀ (l : Bytes), Lib.countByte l 46 = 0 → spl l = [l]
  | [], _ => rfl
  | c :: l, h => by
    unfold Lib.countByte at h
    rw [List.count_cons] at h
    have hc : c ≠ 46 := fun e => by subst e; simp at h
    have ih := spl_zero l (by unfold Lib.countByte; omega)
    rw [spl, if_neg hc, ih]
theorem count_le (l : Bytes) : Lib.countByte l 46 ≤ l.length := List.count_le_length
theorem index_x (l : Bytes) : AC Tryd.prog 66 [AS l, AS [46]] (fun r => ∃ i : Int, i = Lib.indexByte l 46 ∧ r = .s (AI i)) := (index_dot l).mono fun r h => ⟨_, rfl, h⟩
theorem set_at {α : Type} {ps : List α} {n : Nat} {z v : α} (h : ps.length < n) : (ps ++ List.replicate (n - ps.length) z).set ps.length v = (ps ++ [v]) ++ List.replicate (n - (ps.length + 1)) z := by
  have e : n - ps.length = (n - (ps.length + 1)) + 1 := by omega
  rw [List.set_append_right _ _ (Nat.le_refl _), Nat.sub_self, e, List.replicate_succ]
  simp
/-- What the loop knows of the pieces ps that are stored, and of the rest r. -/
def SplJ (s : Bytes) (ps : List Bytes) (r : Bytes) : Prop := spl s = ps ++ spl r ∧ ps.length + Lib.countByte r 46 = Lib.countByte s 46 ∧ r.length ≤ s.length
theorem SplJ.next {s r : Bytes} {ps : List Bytes} {m : Nat} (h : SplJ s ps r) (hm : Lib.indexByte r 46 = (m : Int)) : SplJ s (ps ++ [r.take m]) (r.drop (m + 1)) := by
  obtain ⟨h1, h2, h3⟩ := h
  obtain ⟨g1, g2, g3⟩ := spl_at r m hm
  refine ⟨by rw [h1, g2]; simp, by simp only [List.length_append, List.length_cons, List.length_nil]; omega, by simp only [List.length_drop]; omega⟩
theorem csS_set (l : List Bytes) (k : Nat) (v : Bytes) : (csS l).set k [AS v] = csS (l.set k v) := by simp [csS]
theorem spl_end {s r : Bytes} {ps : List Bytes} (h : SplJ s ps r) (hn : Lib.countByte s 46 ≤ ps.length) : ((ps ++ List.replicate (Lib.countByte s 46 + 1 - ps.length) []).set ps.length r).take (ps.length + 1) = spl s := by
  obtain ⟨h1, h2, h3⟩ := h
  rw [h1, spl_zero r (by omega)]
  have e : Lib.countByte s 46 + 1 - ps.length = 1 := by omega
  rw [e, List.set_append_right _ _ (Nat.le_refl _), Nat.sub_self, List.take_of_length_le (by simp)]
  rfl
set_option maxHeartbeats 1000000 in
theorem genSplit_c (s : Bytes) (hs : s.length ≤ 1000) : AC Tryd.prog 55 [AS s, AS [46], AI 0, AI (-1)] (fun r => r = .s (.sl (csS (spl s)))) := by
  have hc := count_le s
  refine AC.of' 62 1 Tryd.func55 rfl ?_
  change AW _ _ _ _ [TK.mk 0 .off]
  refine AW.seq ?_
  refine AW.region ?_
  refine AL.ra ?_
  refine AL.nil ?_
  change AW _ _ _ _ _
  refine AW.seq ?_
  refine AW.seq ?_
  refine AW.region ?_
  refine AL.rm ?_
  refine AL.r (rd_bin rfl rfl rfl (fun _ => rfl)) ?_
  refine AL.nil ?_
  change AW _ _ _ _ _
  refine AW.cd rfl (fun h13 => ?_) (fun h13 => ?_)
  ·skip
   (simp at *)
  ·skip
   refine AW.skip ?_
   change AW _ _ _ _ _
   refine AW.seq ?_
   refine AW.seq ?_
   refine AW.region ?_
   refine AL.rm ?_
   refine AL.r (rd_seq rfl rfl rfl) ?_
   refine AL.nil ?_
   change AW _ _ _ _ _
   refine AW.cd rfl (fun h15 => ?_) (fun h15 => ?_)
   ·skip
    (simp at *)
   ·skip
    refine AW.skip ?_
    change AW _ _ _ _ _
    refine AW.seq ?_
    refine AW.seq ?_
    refine AW.region ?_
    refine AL.rm ?_
    refine AL.r (rd_bin rfl rfl rfl (fun _ => rfl)) ?_
    refine AL.nil ?_
    change AW _ _ _ _ _
    refine AW.cd rfl (fun h20 => ?_) (fun h20 => ?_)
    ·skip
     refine AW.region ?_
     refine AL.rm ?_
     refine AL.rm ?_
     refine AL.op rfl (AOpB.op (op_call (count_c _) rfl (by kernel_rfl) rfl (none) ?_))
     rintro r rfl
     refine AL.n ?_
     refine AL.r (rd_arith_add rfl rfl rfl (by first | exact IntWalk.i64_in _ (by omega) | rfl)) ?_
     refine AL.ra ?_
     refine AL.nil ?_
     change AW _ _ _ _ _
     refine AW.seq ?_
     refine AW.region ?_
     refine AL.rm ?_
     refine AL.rm ?_
     refine AL.r (rd_len_str rfl str_9 rfl) ?_
     refine AL.r (rd_arith_add rfl rfl rfl (by first | exact IntWalk.i64_in _ (by omega) | rfl)) ?_
     refine AL.r (rd_min rfl rfl rfl ((show _ = ((Lib.countByte s 46 + 1 : Nat) : Int) from if_neg (by omega)))) ?_
     refine AL.ra ?_
     refine AL.nil ?_
     change AW _ _ _ _ _
     refine AW.seq ?_
     refine AW.region ?_
     refine AL.rm ?_
     refine AL.op rfl (AOpB.op (op_makeN 0 rfl ap_35 ze_9 rfl rfl rfl rfl (by omega) (by omega) rfl ?_))
     refine AL.n ?_
     refine AL.ra ?_
     refine AL.nil ?_
     change AW _ _ _ _ _
     refine AW.seq ?_
     refine AW.region ?_
     refine AL.rm ?_
     refine AL.r (rd_arith_sub rfl rfl rfl (by first | exact IntWalk.i64_in _ (by omega) | rfl)) ?_
     refine AL.ra ?_
     refine AL.nil ?_
     change AW _ _ _ _ _
     refine AW.seq ?_
     refine AW.region ?_
     refine AL.ra ?_
     refine AL.nil ?_
     change AW _ _ _ _ _
     refine AW.seq ?_
     refine AW.block ?_
     refine AW.loopM (ι := (List Bytes × Bytes) × Nat × Nat) [11, 34, 35, 36, 37, 38, 39, 40, 41, 42, 43, 44, 45, 46, 47, 48, 49, 50, 51, 52, 53, 54, 55, 56, 57] (fun ⟨⟨ps, r⟩, k, g⟩ => [(0, AS r), (3, AI (((Lib.countByte s 46 + 1 : Nat) : Int) - 1)), (10, AI (k : Nat)), (9, .ow 0 g)]) [] (fun ⟨⟨ps, r⟩, k, g⟩ => [(0, ⟨g, .own 9 1 (csS (ps ++ List.replicate (Lib.countByte s 46 + 1 - k) []))⟩)]) (fun ⟨⟨ps, r⟩, k, g⟩ => SplJ s ps r ∧ ps.length = k) (fun ⟨⟨ps, r⟩, k, g⟩ => Lib.countByte s 46 - k) ⟨⟨[], s⟩, 0, 1⟩ (⟨⟨by simp, by simp, Nat.le_refl _⟩, rfl⟩) (by simp only [anys, upds, offs, List.set_cons_zero, List.set_cons_succ]; repeat (first | exact Wk.nil | refine Wk.same ?_ | refine Wk.any ?_)) (by simp only [anys, upds, offs, List.set_cons_zero, List.set_cons_succ]; repeat (first | exact Sk.nil _ | refine Sk.same _ ?_ | refine Sk.scr _ (by decide) ?_ | refine Sk.eq _ (by simp [csS]) ?_)) ?_
     rintro ⟨⟨ps, r⟩, k, g⟩ gs hJ
     refine AW.norm (by simp only [anys, upds, offs, List.set_cons_zero, List.set_cons_succ]; rfl) (by (try simp only [anys, upds, offs, List.set_cons_zero, List.set_cons_succ]); (try rfl)) ?_
     refine AW.seq ?_
     refine AW.seq ?_
     refine AW.region ?_
     refine AL.rm ?_
     refine AL.rm ?_
     refine AL.r (rd_bin rfl rfl rfl (fun _ => rfl)) ?_
     refine AL.nil ?_
     change AW _ _ _ _ _
     refine AW.cd rfl (fun h36 => ?_) (fun h36 => ?_)
     ·skip
      refine AW.skip ?_
      change AW _ _ _ _ _
      refine AW.block ?_
      refine AW.seq ?_
      refine AW.region ?_
      refine AL.rm ?_
      refine AL.rm ?_
      refine AL.op rfl (AOpB.op (op_call (index_x r) rfl (by kernel_rfl) rfl (none) ?_))
      rintro r ⟨i, hi, rfl⟩
      refine AL.n ?_
      refine AL.ra ?_
      refine AL.nil ?_
      change AW _ _ _ _ _
      refine AW.seq ?_
      refine AW.seq ?_
      refine AW.region ?_
      refine AL.rm ?_
      refine AL.r (rd_bin rfl rfl rfl (fun _ => rfl)) ?_
      refine AL.nil ?_
      change AW _ _ _ _ _
      refine AW.cd rfl (fun h41 => ?_) (fun h41 => ?_)
      ·skip
       (have := spl_no r (by omega); have := hJ.1.2.1; have := hJ.2; omega)
      ·skip
       refine AW.skip ?_
       change AW _ _ _ _ _
       refine AW.seq ?_
       refine AW.region ?_
       have hk := hJ.2; have hlt := (spl_at r i.toNat (by omega)).1; have hJ3 := hJ.1.2.2
       refine AL.rm ?_
       refine AL.rm ?_
       refine AL.rm ?_
       refine AL.rm ?_
       refine AL.rm ?_
       refine AL.r (rd_arith_add rfl rfl rfl (by first | exact IntWalk.i64_in _ (by omega) | rfl)) ?_
       refine AL.r (rd_slice_str rfl str_9 rfl (n := i.toNat) rfl ⟨_, _, rfl, by omega⟩ (by omega) (by omega)) ?_
       refine AL.r (rd_iaddr_ow rfl el_35 rfl rfl rfl (n := k) rfl (by simp only [csS_len, List.length_append, List.length_replicate]; omega)) ?_
       refine AL.store_own 9 (k) rfl rfl rfl rfl rfl rfl rfl rfl rfl rfl sz_9 rfl rfl (by simp only [csS_len, List.length_append, List.length_replicate]; omega) ?_
       refine AL.n ?_
       refine AL.nil ?_
       change AW _ _ _ _ _
       refine AW.seq ?_
       refine AW.region ?_
       refine AL.rm ?_
       refine AL.rm ?_
       refine AL.rm ?_
       refine AL.r (rd_len_str rfl str_9 rfl) ?_
       refine AL.r (rd_arith_add rfl rfl rfl (by first | exact IntWalk.i64_in _ (by omega) | rfl)) ?_
       refine AL.r (rd_slice_str rfl str_9 rfl (m := i.toNat + 1) ⟨_, _, rfl, by simp; omega⟩ rfl (by omega) (by omega)) ?_
       refine AL.ra ?_
       refine AL.nil ?_
       change AW _ _ _ _ _
       refine AW.region ?_
       refine AL.rm ?_
       refine AL.r (rd_arith_add rfl rfl rfl (by first | exact IntWalk.i64_in _ (by omega) | rfl)) ?_
       refine AL.ra ?_
       refine AL.nil ?_
       refine ⟨⟨⟨ps ++ [r.take i.toNat], (r.take r.length).drop (i.toNat + 1)⟩, k + 1, g + 1⟩, ?_, ?_, ?_, ?_⟩
       ·(rw [List.take_length]; exact ⟨hJ.1.next (by omega), by simp; exact hk⟩)
       ·(show Lib.countByte s 46 - (k + 1) < Lib.countByte s 46 - k; omega)
       ·simp only [anys, upds, offs, List.set_cons_zero, List.set_cons_succ]; repeat (first | exact Wk.nil | refine Wk.same ?_ | refine Wk.any ?_)
       ·simp only [anys, upds, offs, List.set_cons_zero, List.set_cons_succ]; repeat (first | exact Sk.nil _ | refine Sk.same _ ?_ | refine Sk.scr _ (by decide) ?_ | refine Sk.eq _ (by (rw [csS_set]; subst hk; rw [set_at (n := Lib.countByte s 46 + 1) (by omega)])) ?_)
     ·skip
      refine AW.exit ?_
      change AW _ _ _ _ _
      refine AW.seq ?_
      refine AW.region ?_
      have hk := hJ.2; have hle := hJ.1.2.1
      refine AL.rm ?_
      refine AL.rm ?_
      refine AL.rm ?_
      refine AL.r (rd_iaddr_ow rfl el_35 rfl rfl rfl (n := k) rfl (by simp only [csS_len, List.length_append, List.length_replicate]; omega)) ?_
      refine AL.store_own 9 (k) rfl rfl rfl rfl rfl rfl rfl rfl rfl rfl sz_9 rfl rfl (by simp only [csS_len, List.length_append, List.length_replicate]; omega) ?_
      refine AL.n ?_
      refine AL.nil ?_
      change AW _ _ _ _ _
      refine AW.seq ?_
      refine AW.region ?_
      refine AL.settle 9 rfl rfl (by first | rfl | exact cont_owM _ _ _ _) ?_
      refine AL.no ?_
      refine AL.rm ?_
      refine AL.rm ?_
      refine AL.r (rd_arith_add rfl rfl rfl (by first | exact IntWalk.i64_in _ (by omega) | rfl)) ?_
      refine AL.r (rd_slice_sl rfl el_35 rfl (n := k + 1) (by rw [csS_set]; exact csS_one) rfl ⟨_, _, rfl, rfl⟩ (by omega) (by simp only [csS_len, List.length_set, List.length_append, List.length_replicate]; omega)) ?_
      refine AL.ra ?_
      refine AL.nil ?_
      change AW _ _ _ _ _
      refine AW.ret ?_
      change ResA _ _ _ _ _
      refine res1 rfl (ResV.tmp rfl) rfl ?_
      (rw [csS_set, csS_take]; subst hk; rw [spl_end hJ.1 (by omega)])
    ·skip
     (simp at *)
theorem split_c (s : Bytes) (hs : s.length ≤ 1000) : AC Tryd.prog 32 [AS s, AS [46]] (fun r => r = .s (.sl (csS (spl s)))) := by
  refine AC.of' 6 0 Tryd.func32 rfl ?_
  change AW _ _ _ _ []
  refine AW.seq ?_
  refine AW.region ?_
  refine AL.ra ?_
  refine AL.nil ?_
  change AW _ _ _ _ _
  refine AW.seq ?_
  refine AW.region ?_
  refine AL.rm ?_
  refine AL.rm ?_
  refine AL.op rfl (AOpB.op (op_call (genSplit_c _ hs) rfl (by kernel_rfl) rfl (none) ?_))
  rintro r rfl
  refine AL.n ?_
  refine AL.ra ?_
  refine AL.nil ?_
  change AW _ _ _ _ _
  refine AW.ret ?_
  change ResA _ _ _ _ _
  refine res1 rfl (ResV.tmp rfl) rfl ?_
  rfl
end Go.Proofs.YtpkjlmaphhileaaDoor
