/- Texts of the proof of talkPacks_holds, put together by a program: ApS PenA. -/
import Derived.Lib.AppendStr
import Derived.Lib.ConvBytes
import Derived.Test.YtlapcfnmmpbeeaaGreatPP12
import Derived.Test.YtlapcfnmmpbeeaaGreatPP16
set_option linter.unusedSimpArgs false
set_option linter.unusedVariables false
namespace Go.Proofs.YtlapcfnmmpbeeaaGreat
open Go.RowKit
theorem strCells_sv (l : List UInt8) : Go.Lib.strCells ⟨l.toArray⟩ = bvs l := by simp [Go.Lib.strCells, bvs, bv]
theorem op_append_str {P : Program} {o : Oper} {t : List AV} {st : List TK} {x s : Operand} {K : AV → List TK → Prop} {T U e k g : Nat} {xs : List (List AV)} {l : List UInt8} (ho : o.op = .call { callee := .builtin .append, args := #[s, x], argTypes := #[T, U] }) (hT : P.underlying T = some (.slice e)) (hI : (P.info? e).map (fun i => (i.zero, i.size, i.bytes)) = some (some (Value.int IntKind.u8 0), 1, 1)) (hU : isStr P U = true)
    (hs : evA t s = .ow k g) (hk : st[k]? = some ⟨g, .own e 1 xs⟩) (hx : evV t x = some (sv l)) (hsz : xs.length + l.length ≤ 140737488355328)
    (h : K (.ow k (g + 1)) (st.set k ⟨g + 1, .own e 1 (xs ++ byA l)⟩)) : AOp P o t st K := fun F ρ w0 w a hst hm next Q hn => by
  cases hi : P.info? e with
  | none => rw [hi] at hI; cases hI
  | some i =>
  rw [hi] at hI
  simp only [Option.map_some, Option.some.injEq, Prod.mk.injEq] at hI
  obtain ⟨hz0, hz1, hz2⟩ := hI
  have hu : P.underlying U = some .string := by unfold isStr at hU; split at hU <;> simp_all
  have hxv := hm.val hx
  have hv := hm.ev s
  rw [hs] at hv
  have hv := hv.ow_inv hk
  obtain ⟨vs, h1, h2, h3, h4, h5⟩ := hst.own k g e 1 xs hk
  have hge := hst.geB k _ hk (by simp)
  have hsize : (⟨l.toArray⟩ : ByteArray).size = l.length := by simp [ByteArray.size]
  have key : ∃ v' w', (Builtin.append_ #[T, U] o.type #[.slice (some ⟨(ρ k).1, 0, none⟩) xs.length (ρ k).2, sv l]).run P w = .ok v' w' ∧ w'.ownsRow 0 e 1 v' (xs.length + l.length) (vs ++ bvs l) ∧ w.grownBy w' (some (ρ k).1) ∧ (v'.ownBlock = some (ρ k).1 ∨ v'.ownBlock = some w.heap.size) := by
    obtain ⟨v', w', hrun, g2, g3, _⟩ := Go.Lib.run_append_own_string (P := P) w 0 T U o.type e i hT hu hi hz0 hz1 hz2 _ xs.length vs h1 ⟨l.toArray⟩ (by unfold maxLen; rw [hsize]; omega) (by rw [hsize]; omega) (Nat.zero_le _)
    rw [hsize, strCells_sv] at g2
    refine ⟨v', w', hrun, g2, g3, ?_⟩
    rcases h1.2 with ⟨e1, _⟩ | ⟨gg, cap, cur, e1, hbg, hg, hnc, hcm, hcs, htake⟩
    · cases e1
    · injection e1 with e1 _ e3
      injection e1 with e1
      injection e1 with e1
      rw [e3] at hrun
      rw [e1] at hrun
      by_cases hroom : xs.length + (⟨l.toArray⟩ : ByteArray).size ≤ cap
      · have hr := Go.Lib.run_append_room_string (P := P) w T U o.type e i hT hu hi hz1 gg xs.length cap cur hg ⟨l.toArray⟩ hroom (by rw [hcs]; omega)
        have := hrun.symm.trans hr
        injection this with e4 e5
        left
        rw [e4, e1]; rfl
      · have holds : ∀ j u, vs[j]? = some u → w.cell? ((⟨gg, 0, none⟩ : Addr).add j) = some u := (by have h1' := h1; rw [e1, e3] at h1'; exact h1'.cells (g := gg) rfl)
        have hr := Go.Lib.run_append_grow_string (P := P) w T U o.type e i (.int .u8 0) hT hu hi hz0 ⟨gg, 0, none⟩ xs.length cap vs (by rw [hz1]; exact h1.1) holds ⟨l.toArray⟩ (by omega) (by rw [hsize]; omega) (by rw [hz2, hsize]; exact growslice_fits (by omega) (by omega))
        have := hrun.symm.trans hr
        injection this with e4 e5
        right
        rw [e4]; rfl
  obtain ⟨v', w', hrun, g2, g3, g4⟩ := key
  have hex : ∃ g' cap, v' = .slice (some ⟨g', 0, none⟩) (xs ++ byA l).length cap ∧ (g' = (ρ k).1 ∨ g' = w.heap.size) := by
    rcases g2.2 with ⟨h', h0⟩ | ⟨g', cap, cur, h', _⟩
    · rw [h'] at g4
      rcases g4 with g4 | g4 <;> cases g4
    · rw [h'] at g4
      refine ⟨g', cap, by rw [h', List.length_append, byA_len], ?_⟩
      rcases g4 with g4 | g4
      · injection g4 with g4; exact .inl g4
      · injection g4 with g4; exact .inr g4
  obtain ⟨g', cap, rfl, hg'⟩ := hex
  rw [← byA_len l, ← List.length_append] at g2
  obtain ⟨ρ', hρ, hs', hmv⟩ := hst.regrow (row := some (ρ k).1) hk (fun b e => by injection e with e; exact ⟨by simp, e.symm⟩) g3 (hg'.imp (fun e => ⟨by simp, e⟩) id) (g2.lt g' rfl).2 e 1 cap (xs ++ byA l) ⟨vs ++ bvs l, g2, h2, fun v hv => (List.mem_append.1 hv).elim (h3 v) (fun hv => by unfold bvs at hv; obtain ⟨b, _, rfl⟩ := List.mem_map.1 hv; rfl), fun i cs hc => by
      rcases Nat.lt_or_ge i xs.length with hlt | hge
      · rw [List.getElem?_append_left hlt] at hc; exact h4 i cs hc
      · rw [List.getElem?_append_right hge] at hc; exact byA_one cs (List.mem_of_getElem? hc), cat_rep h1.1 h4 h5 (fun i j cs v z hi hj hv => by
        unfold byA at hi
        rw [List.getElem?_map] at hi
        cases hb : l[i]? with
        | none => rw [hb] at hi; cases hi
        | some b =>
          rw [hb] at hi
          injection hi with hi
          subst hi
          have hj0 : j = 0 := by
            have := (List.getElem?_eq_some_iff.1 hj).1
            simpa using this
          subst hj0
          unfold bvs at hv
          rw [Nat.mul_one, Nat.add_zero, List.getElem?_map, hb] at hv
          simp at hv hj
          subst hv hj
          exact .sc _)⟩
  have hrun2 : (execOp a.eval o).run P w = .ok (.value (.slice (some ⟨g', 0, none⟩) (xs ++ byA l).length cap)) w' := by
    simp only [execOp, ho, resolve, invoke, builtin, Sem.run_bind, Sem.run_pure, Result.andThen_ok, List.map_toArray, List.map_cons, List.map_nil, hv, hxv, hrun]
  unfold Oper.wp
  rw [hrun2]
  have hk2 : (st.set k ⟨g + 1, .own e 1 (xs ++ byA l)⟩)[k]? = some ⟨g + 1, .own e 1 (xs ++ byA l)⟩ := by rw [List.getElem?_set_self (List.getElem?_eq_some_iff.1 hk).1]
  have hrep := Rep.ow (F := F) (ρ := ρ') (w := w') k (g + 1) e 1 (xs ++ byA l) hk2
  rw [hρ] at hrep
  exact hn _ w' ρ' _ _ hs' hmv hrep h
theorem Mv.thenM {F : Nat → Prop} {ρ ρ' ρ2 : Loc} {st st' st2 : List TK} {w w' w2 : World} (h : Mv F ρ st w ρ' st' w') (k : Mv F ρ' st' w' ρ2 st2 w2) : Mv F ρ st w ρ2 st2 w2 := ⟨fun b o hf ho => (h.free b o hf ho).elim fun a c => k.free b o a c, fun q tk hq => by
  obtain ⟨tk', h1, h2⟩ := h.tk q tk hq
  obtain ⟨tk2, k1, k2⟩ := k.tk q tk' h1
  exact ⟨tk2, k1, TkR.trans (b := tk') (m := ρ' q) h2 k2⟩⟩
theorem op_append0M {P : Program} {o : Oper} {t : List AV} {st : List TK} {x s : Operand} {K : AV → List TK → Prop} {T e sz by_ : Nat} {ys : List (List AV)} (k : Nat) {tk : TK} (ho : o.op = .call { callee := .builtin .append, args := #[s, x], argTypes := #[T, T] }) (hT : apI P T = some (e, sz, by_)) (hs : evV t s = some (.slice none 0 0)) (hk : st[k]? = some tk) (hx : Src t st x sz ys) (hsz : ys.length * by_ ≤ 140737488355328) (hml : ys.length ≤ 9223372036854775807)
    (h : K (.ow k (tk.g + 1)) (st.set k ⟨tk.g + 1, owM true e sz ys⟩)) : AOp P o t st K := by
  cases hys : ys with
  | cons y ys' => exact AOpB.op (op_append0 k ho hT (.inr hs) hk hx (by rw [hys]; simp) hsz hml (by rw [hys] at h ⊢; exact h))
  | nil =>
    subst hys
    intro F ρ w0 w a hst hm next Q hn; obtain ⟨hu, hpos, i, z, hi, hz0, hz1, hz2, hz⟩ := ap_parts hT; obtain ⟨A, c, news, he, hn1, hn2, hn3, hn4, hn5, hn6⟩ := hx F ρ w0 w a hst hm
    have hv : a.eval s = .slice none 0 0 := hm.val hs
    obtain ⟨w', hrun, hb⟩ : ∃ w', (Builtin.append_ #[T, T] o.type #[.slice none 0 0, .slice A 0 c]).run P w = .ok (.slice none 0 0) w' ∧ Below w.heap.size w w' := by
      rcases A with _ | ad
      · refine ⟨w, ?_, Below.refl _ _⟩; simp [Builtin.append_, run_underlying hu, sizeOf, typeInfo, hi, Builtin.lenOf, Builtin.firstCells]
      · have hnn : news = [] := List.eq_nil_of_length_eq_zero (by simpa using hn1)
        subst hnn
        obtain ⟨v', w', hrun, g2, g3, g5, g4⟩ := run_append_own_at (P := P) w w.heap.size T o.type e i z sz by_ hu hi hz0 hz1 hz2 hz hpos _ 0 [] (World.ownsRow_nil w w.heap.size e sz) ad 0 c [] (by simp) (by simp) (by simp) (by unfold maxLen; omega) (by omega) (Nat.le_refl _)
        rw [g5.2 ⟨rfl, rfl⟩] at hrun
        exact ⟨w', hrun, below_of_grown g3⟩
    have hrun2 : (execOp a.eval o).run P w = .ok (.value (.slice none 0 0)) w' := by
      simp only [execOp, ho, resolve, invoke, builtin, Sem.run_bind, Sem.run_pure, Result.andThen_ok, List.map_toArray, List.map_cons, List.map_nil, hv, he, List.length_nil, hrun]
    unfold Oper.wp
    rw [hrun2]
    have hklt := (List.getElem?_eq_some_iff.1 hk).1
    have hst1 := hst.grow hb
    have hmv : Mv F ρ st w' ρ (st.set k ⟨tk.g + 1, .nown e sz⟩) w' := Mv.upd hk (fun _ _ => rfl) (fun b o hf ho => ⟨fun h => h, ho⟩) (.inr (.inl (Nat.lt_succ_self _)))
    have hs' : St F ρ (st.set k ⟨tk.g + 1, .nown e sz⟩) w0 w' := hst1.upd hk (fun _ _ => rfl) hst1.below (Nat.le_refl _) hmv (fun _ _ _ _ _ _ => rfl) (fun b hf => hf.elim) (fun j q b hj hq hf hf' => hf') (fun ty cs e => by cases e) (fun el' sz' xs' e => by cases e) (fun p e => by cases e)
    exact hn _ w' ρ _ (.ow k (tk.g + 1)) hs' ((Mv.below hb).thenM hmv) (.ow0 k _ e sz (by rw [List.getElem?_set_self hklt])) h
theorem op_s2b {P : Program} {o : Oper} {t : List AV} {st : List TK} {x : Operand} {K : AV → List TK → Prop} {src dst e : TypeId} {l : List UInt8} (ho : o.op = .convert src dst x) (hs : isStr P src = true) (hd : P.underlying dst = some (.slice e)) (he : P.underlying e = some (.int .u8)) (hx : evV t x = some (sv l)) (hl : l.length ≤ maxLen) (h : K (.sl (byA l)) st) : AOpB P o t st K := fun F ρ w0 w a hst hm next Q hn => by
  have hu : P.underlying src = some .string := by unfold isStr at hs; split at hs <;> simp_all
  have hxv := hm.val hx
  have hsize : (⟨l.toArray⟩ : ByteArray).size = l.length := by simp [ByteArray.size]
  have hrun := Go.Lib.run_convert_string_bytes (P := P) w src dst e ⟨l.toArray⟩ hu hd he
  have hb : Below w.heap.size w (Go.Lib.bytesWorld w e ⟨l.toArray⟩) := ⟨rfl, rfl, rfl, by rw [Go.Lib.bytesWorld_size]; omega, fun k hk => Go.Lib.bytesWorld_at_old w e _ k hk⟩
  have hcap : grownCap w l.length 0 e ≤ maxLen := grownCap_le_maxLen w l.length 0 e hl
  have hge : l.length ≤ grownCap w l.length 0 e := grownCap_ge w l.length 0 e
  rw [hsize] at hrun
  have hrep : RepS (Free F ρ st) (Go.Lib.bytesWorld w e ⟨l.toArray⟩) (.slice (some ⟨w.heap.size, 0, none⟩) l.length (grownCap w l.length 0 e)) (.sl (byA l)) := by
    by_cases h0 : l.length = 0
    · obtain rfl := List.eq_nil_of_length_eq_zero h0
      exact .sl0 _ _ hcap
    · refine .sl1 w.heap.size 0 l.length _ 1 (fun i j => if h : i < l.length then bv l[i] else .bool false) _ (by rw [byA_len]) (by omega) hge hcap (by omega) (hst.free_new (Nat.le_refl _)) (fun i cs h => byA_one cs (List.mem_of_getElem? h)) (fun i j hi hj => ?_) (fun i j => ?_) (fun i j cs x hi hj => ?_)
      · obtain rfl : j = 0 := by omega
        have := Go.Lib.bytesWorld_cell w e ⟨l.toArray⟩ i (by rw [hsize]; exact hi)
        simp only [dif_pos hi, Nat.mul_one, Nat.add_zero, Nat.zero_add]
        rw [this]
        simp [bv, hi]
      · split
        · rfl
        · rfl
      · unfold byA at hi
        rw [List.getElem?_map] at hi
        cases hb2 : l[i]? with
        | none => rw [hb2] at hi; cases hi
        | some b =>
          rw [hb2] at hi
          injection hi with hi
          subst hi
          have hj0 : j = 0 := by
            have := (List.getElem?_eq_some_iff.1 hj).1
            simpa using this
          subst hj0
          simp at hj
          subst hj
          obtain ⟨h4, h5⟩ := List.getElem?_eq_some_iff.1 hb2
          rw [dif_pos h4, h5]
          exact .sc _
  have hrun2 : (execOp a.eval o).run P w = .ok (.value (.slice (some ⟨w.heap.size, 0, none⟩) l.length (grownCap w l.length 0 e))) (Go.Lib.bytesWorld w e ⟨l.toArray⟩) := by
    simp only [execOp, ho, hxv, Sem.run_bind, hrun, Result.andThen_ok, Sem.run_pure]
  unfold Oper.wp
  rw [hrun2]
  exact hn _ _ ρ st _ (hst.grow hb) (Mv.below hb) (.s hrep) hb h
set_option maxRecDepth 100000
theorem join_c (a b : List UInt8) (ha : a.length ≤ 1099511627776) (hb : b.length ≤ 1099511627776) : AC Tryz.prog 94 [.sl (byA a), .sl (byA b)] (fun r => r = .o 5 1 (byA (a ++ b))) := by
  have qa := byA_len a
  have qb := byA_len b
  refine AC.of' 16 3 Tryz.func94 rfl ?_; change AW _ _ _ _ [TK.mk 0 .off, TK.mk 0 .off, TK.mk 0 .off]; refine AW.seq (AW.region (AL.ra ?_)); refine AL.nil (AW.seq (AW.region (AL.rm ?_))); refine AL.r (rd_len_sl rfl el_52 rfl) ?_; refine AL.rm ?_; refine AL.r (rd_len_sl rfl el_52 rfl) ?_; refine AL.r (rd_arith_add rfl rfl rfl (IntWalk.i64_in _ (by omega))) ?_; refine AL.op rfl (AOpB.op (op_make0 0 rfl ap_52 rfl rfl (show _ = ((a.length + b.length : Nat) : Int) by omega) (by omega) (by omega) rfl ?_)); refine AL.n ?_; refine AL.ra ?_; refine AL.nil (AW.seq (AW.region ?_)); (iterate 2 refine AL.rm ?_); refine AL.op rfl (op_append rfl ap_52 rfl rfl (src_s rfl) (by first | omega | (simp; omega) | simp) (by first | omega | (simp; omega) | simp) ?_); refine AL.n ?_; refine AL.ra ?_; refine AL.nil ?_
  change AW _ _ _ _ _; refine AW.seq (AW.region ?_); (iterate 2 refine AL.rm ?_); refine AL.op rfl (op_append rfl ap_52 rfl rfl (src_s rfl) (by first | omega | (simp; omega) | simp) (by first | omega | (simp; omega) | simp) ?_); refine AL.n ?_; refine AL.ra ?_; refine AL.nil (AW.ret (res1o rfl (ResV.tmp rfl) rfl ?_)); rw [List.nil_append, byA_app]
theorem putN_len (f z : Int) : (putN f z).length ≤ 10 := by
  unfold putN; split
  · rw [leB_len]; omega
  · split
    · exact vary_len 9 _
    · simp
theorem putN_ne {f z : Int} (h : f = 1 ∨ f = 2) : putN f z ≠ [] := by
  have : 0 < (putN f z).length := by
    unfold putN
    rcases h with rfl | rfl
    · rw [if_pos rfl, leB_len]; omega
    · rw [if_neg (by decide), if_pos rfl]; exact vary_pos 9 _
  exact fun e => by rw [e] at this; simp at this
def okF (f : Int) : Bool := f == 1 || f == 2
theorem okF_iff {f : Int} : okF f = true ↔ f = 1 ∨ f = 2 := by unfold okF; simp
theorem cput_n (f z : Int) (hf : i64R f) (hz : i64R z) (h : okF f = true) : AC Tryz.prog 93 [.sl (byA []), .sc (.int .i64 f), .sc (.int .i64 z)] (fun r => r = .o 5 1 (byA (putN f z))) := by
  have := cput_o [] f z hf hz (by simp) (by rw [List.nil_append]; exact putN_ne (okF_iff.1 h))
  rwa [List.nil_append] at this
theorem cput_ns (f z : Int) (hf : i64R f) (hz : i64R z) : AC Tryz.prog 93 [.sl (byA []), .sc (.int .i64 f), .sc (.int .i64 z)] (fun r => r = .s (.sl (byA (putN f z)))) := by
  have := cput_s [] f z hf hz (by simp)
  rwa [List.nil_append] at this
def textP (f : Int) (s : Bytes) : List UInt8 := if okF f then putN f s.length ++ s else []
def tagP (f : Int) (t : TagD) : List UInt8 := putN f t.rep ++ putN f t.n
def refP (f : Int) (r : RefD) : List UInt8 := putN f r.scope ++ textP f r.group ++ textP f r.name
theorem textP_len (f : Int) (s : Bytes) : (textP f s).length ≤ 10 + s.length := by
  have := putN_len f s.length
  unfold textP
  split
  · rw [List.length_append]; omega
  · simp
section
variable (b : List UInt8) (f : Int) (hb : b.length ≤ 549755813888) (hf : i64R f)
include hb hf
theorem pnum_c (z : Int) (hz : i64R z) : AC Tryz.prog 44 [.sl (byA b), .sc (.int .i64 f), .sc (.int .i64 z)] (fun r => r = .s (.sl (byA (b ++ putN f z)))) := by
  refine AC.of' 8 0 Tryz.func44 rfl ?_; change AW _ _ _ _ []; refine AW.seq (AW.region (AL.ra ?_)); refine AL.nil (AW.seq (AW.region ?_)); (iterate 3 refine AL.rm ?_); refine AL.op rfl (AOpB.op (op_call (cput_s b f z hf hz (by omega)) rfl (by kernel_rfl) rfl (none) ?_)); rintro r rfl; refine AL.n ?_; refine AL.ra ?_; refine AL.nil (AW.ret (r1t ?_)); rfl
theorem ptext_c (s : Bytes) (hs : s.length ≤ 549755813000) : AC Tryz.prog 96 [.sl (byA b), .sc (.int .i64 f), AS s] (fun r => r = .s (.sl (byA (b ++ textP f s)))) := by
  have ht := putN_len f s.length
  refine AC.of' 17 2 Tryz.func96 rfl ?_; change AW _ _ _ _ [TK.mk 0 .off, TK.mk 0 .off]; refine AW.seq (AW.region (AL.ra ?_)); refine AL.nil (AW.seq (AW.seq (AW.region (AL.rm ?_)))); refine AL.op rfl (AOpB.op (op_call (cright_c f) rfl (by kernel_rfl) rfl (none) ?_)); rintro r rfl; refine AL.n ?_; refine AL.r (rd_un rfl rfl (fun _ => rfl)) ?_; refine AL.nil (AW.cd rfl (fun h9 => ?_) (fun h9 => ?_))
  ·refine AW.seq (AW.region (AL.rm ?_)); refine AL.op rfl (AOpB.op (op_call (join_c b [] (by omega) (by simp)) rfl (by kernel_rfl) rfl (none) ?_)); rintro r rfl; refine AL.n ?_; refine AL.ra ?_; refine AL.nil (AW.ret (r1t ?_)); rw [textP, if_neg (by simp_all [okF])]
  ·refine AW.skip (AW.seq (AW.region ?_))
   have hF : okF f = true := (by unfold okF; simpa using h9)
   have hl := byA_len (putN f s.length)
   (iterate 3 refine AL.rm ?_); refine AL.r (rd_len_str rfl str_9 rfl) ?_; refine AL.op rfl (AOpB.op (op_call (cput_n f s.length hf ⟨by omega, by omega⟩ hF) rfl (by kernel_rfl) rfl (some 0) ?_)); rintro r rfl; refine ⟨_, rfl, ?_⟩; refine AL.n ?_; refine AL.rm ?_; refine AL.op rfl (op_append_str rfl Tryz.underlying52 (by kernel_rfl) str_9 rfl rfl rfl (by simp only [byA_len]; omega) ?_); refine AL.n ?_; refine AL.settle 18 rfl rfl (by first | rfl | exact cont_owM _ _ _ _) ?_; refine AL.no ?_; refine AL.op rfl (AOpB.op (op_call (join_c b (putN f s.length ++ s) (by omega) (by rw [List.length_append]; omega)) rfl (by kernel_rfl) rfl (none) ?_)); rintro r rfl; refine AL.n ?_; refine AL.ra ?_; refine AL.nil (AW.ret (r1t ?_)); rw [textP, if_pos hF]
omit hf in
theorem pflag_c (x : Bool) : AC Tryz.prog 98 [.sl (byA b), AB x] (fun r => r = .s (.sl (byA (b ++ [if x then 1 else 0])))) := by
  refine AC.of' 10 2 Tryz.func98 rfl ?_; change AW _ _ _ _ [TK.mk 0 .off, TK.mk 0 .off]; refine AW.seq (AW.region (AL.ra ?_)); refine AL.nil (AW.seq (AW.seq (AW.region (AL.rm ?_)))); refine AL.nil (AW.cd rfl (fun h5 => ?_) (fun h5 => ?_))
  ·refine AW.seq (AW.region (AL.rm ?_)); refine AL.op rfl (AOpB.op (bs_set rfl ap_52 ze_5 rfl rfl ?_)); refine AL.n ?_; refine AL.op rfl (AOpB.op (op_call (join_c b [1] (by omega) (by simp)) rfl (by kernel_rfl) rfl (none) ?_)); rintro r rfl; refine AL.n ?_; refine AL.ra ?_; refine AL.nil (AW.ret (r1t ?_)); simp_all
  ·refine AW.skip (AW.seq (AW.region (AL.rm ?_))); refine AL.op rfl (AOpB.op (bs_set rfl ap_52 ze_5 rfl rfl ?_)); refine AL.n ?_; refine AL.op rfl (AOpB.op (op_call (join_c b [0] (by omega) (by simp)) rfl (by kernel_rfl) rfl (none) ?_)); rintro r rfl; refine AL.n ?_; refine AL.ra ?_; refine AL.nil (AW.ret (r1t ?_)); simp_all
theorem ptag_c (t : TagD) (h1 : i64R t.rep) (h2 : i64R t.n) : AC Tryz.prog 47 [.sl (byA b), .sc (.int .i64 f), t.av] (fun r => r = .s (.sl (byA (b ++ tagP f t)))) := by
  have l1 := putN_len f t.rep
  have l2 := putN_len f t.n
  change AC _ _ [.sl (byA b), .sc (.int .i64 f), .ag [AI t.rep, AI t.n]] _; refine AC.of' 14 1 Tryz.func47 rfl ?_; change AW _ _ _ _ [TK.mk 0 .off]; refine AW.seq (AW.region (AL.op rfl (AOpB.op (op_box 0 rfl rfl rfl rfl rfl ?_)))); refine AL.n ?_; refine AL.ra ?_; refine AL.nil (AW.seq (AW.draw (by kernel_rfl) ?_)); refine AD.r 0 rfl (rd_move rfl rfl) rfl ?_; refine AD.r 1 rfl (rd_move rfl rfl) rfl ?_; refine AD.r 2 rfl (qa fo_34_0) rfl ?_; refine AD.r 3 rfl (ql ag_3) rfl ?_; refine AD.r 5 rfl (rd_move rfl rfl) rfl ?_; refine AD.r 6 rfl (qa fo_34_1) rfl ?_; refine AD.r 7 rfl (ql ag_3) rfl ?_; refine AD.move 4 rfl (by kernel_rfl) rfl (op_call (cput_ns f t.rep hf h1) rfl (by kernel_rfl) rfl (none) ?_); rintro r rfl; refine AD.n ?_
  refine AD.move 8 rfl (by kernel_rfl) rfl (op_call (cput_s (putN f t.rep) f t.n hf h2 (by omega)) rfl (by kernel_rfl) rfl (none) ?_); rintro r rfl; refine AD.n ?_; refine AD.move 9 rfl (by kernel_rfl) rfl (op_call (join_c b (putN f t.rep ++ putN f t.n) (by omega) (by rw [List.length_append]; omega)) rfl (by kernel_rfl) rfl (none) ?_); rintro r rfl; refine AD.n ?_; refine AD.r 10 rfl (rd_assign rfl rfl) rfl ?_; refine AD.done (by kernel_rfl) ?_; change AW _ _ _ _ _; refine AW.ret (r1t ?_); rfl
theorem pref_c (r : RefD) (h1 : i64R r.scope) (hg : r.group.length ≤ 1000000) (hn : r.name.length ≤ 1000000) : AC Tryz.prog 97 [.sl (byA b), .sc (.int .i64 f), r.av] (fun x => x = .s (.sl (byA (b ++ refP f r)))) := by
  have l1 := putN_len f r.scope
  have l2 := textP_len f r.group
  have l3 := textP_len f r.name
  change AC _ _ [.sl (byA b), .sc (.int .i64 f), .ag [AI r.scope, AS r.group, AS r.name]] _; refine AC.of' 22 1 Tryz.func97 rfl ?_; change AW _ _ _ _ [TK.mk 0 .off]; refine AW.seq (AW.region (AL.op rfl (AOpB.op (op_box 0 rfl rfl rfl rfl rfl ?_)))); refine AL.n ?_; refine AL.ra ?_; refine AL.nil (AW.seq (AW.region (AL.rm ?_))); refine AL.r (qa fo_36_0) ?_; refine AL.r (ql ag_3) ?_; refine AL.op rfl (AOpB.op (op_call (cput_ns f r.scope hf h1) rfl (by kernel_rfl) rfl (none) ?_)); rintro r rfl; refine AL.n ?_; refine AL.ra ?_; refine AL.nil (AW.seq (AW.region ?_)); (iterate 2 refine AL.rm ?_); refine AL.r (qa fo_36_1) ?_; refine AL.r (ql ag_9) ?_; refine AL.op rfl (AOpB.op (op_call (ptext_c (putN f r.scope) f (by omega) hf r.group (by omega)) rfl (by kernel_rfl) rfl (none) ?_))
  rintro r rfl; refine AL.n ?_; refine AL.ra ?_; refine AL.nil (AW.seq (AW.region ?_)); (iterate 2 refine AL.rm ?_); refine AL.r (qa fo_36_2) ?_; refine AL.r (ql ag_9) ?_; refine AL.op rfl (AOpB.op (op_call (ptext_c (putN f r.scope ++ textP f r.group) f (by rw [List.length_append]; omega) hf r.name (by omega)) rfl (by kernel_rfl) rfl (none) ?_)); rintro r rfl; refine AL.n ?_; refine AL.ra ?_; refine AL.nil (AW.seq (AW.region ?_)); (iterate 2 refine AL.rm ?_); refine AL.op rfl (AOpB.op (op_call (join_c b (refP f r) (by omega) (by unfold refP; simp only [List.length_append]; omega)) rfl (by kernel_rfl) rfl (none) ?_)); rintro r rfl; refine AL.n ?_; refine AL.ra ?_; refine AL.nil (AW.ret (r1t ?_))
  rfl
end
end Go.Proofs.YtlapcfnmmpbeeaaGreat
