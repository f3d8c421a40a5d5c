/- Texts of the proof of talkRight_holds, put together by a program: TkU. -/
import Derived.Test.YtlapcfnmmpbeeaaGreatPR34
import Derived.Test.YtlapcfnmmpbeeaaGreatPR46
set_option linter.unusedSimpArgs false
set_option linter.unusedVariables false
namespace Go.Proofs.YtlapcfnmmpbeeaaGreat
set_option maxRecDepth 100000
set_option maxRecDepth 100000
open Go.RowKit
theorem Mt.rows {M : RM} {b c sz : Nat} {T : TypeId} {vs : Array Value} {xs : List (List AV)} (hp : ∀ cs ∈ xs, ∀ x ∈ cs, ∃ u, x = .sc u ∧ u.oneCell' = true) (h0 : 0 < xs.length) (hm : c ≤ maxLen) (hl : xs.length ≤ c) (hsz : 0 < sz) (hn : ∀ (i : Nat) (cs : List AV), xs[i]? = some cs → cs.length = sz) (hc : ∀ (i : Nat) (cs : List AV) (j : Nat) (u : Value), xs[i]? = some cs → cs[j]? = some (.sc u) → vs[i * sz + j]? = some u) (hz : ∀ (i : Nat) (cs : List AV) (j : Nat), xs[i]? = some cs → cs[j]? = some (.sl []) → ∃ A c, vs[i * sz + j]? = some (.slice A 0 c) ∧ c ≤ maxLen) (hb : M b = none) : RawS (M.set b (T, vs)) (.slice (some ⟨b, 0, none⟩) xs.length c) (.sl xs) :=
  RawS.of_rows rfl h0 hm hl hsz hn hc hz hb fun i cs ds h1 h2 => by
    rw [h1] at h2; injection h2 with h2; subst h2
    exact MtL.self (hp cs (List.mem_of_getElem? h1))
theorem plainT (l : List TagD) : ∀ cs ∈ l.map TagD.cs, ∀ x ∈ cs, ∃ u, x = .sc u ∧ u.oneCell' = true := fun cs h x hx => by
  obtain ⟨t, _, rfl⟩ := List.mem_map.1 h
  simp only [TagD.cs, List.mem_cons, List.not_mem_nil, or_false] at hx
  rcases hx with rfl | rfl <;> exact ⟨_, rfl, rfl⟩
theorem plainP (l : List PairD) : ∀ cs ∈ l.map PairD.cs, ∀ x ∈ cs, ∃ u, x = .sc u ∧ u.oneCell' = true := fun cs h x hx => by
  obtain ⟨t, _, rfl⟩ := List.mem_map.1 h
  simp only [PairD.cs, List.mem_cons, List.not_mem_nil, or_false] at hx
  rcases hx with rfl | rfl <;> exact ⟨_, rfl, rfl⟩
theorem plainS (l : List Bytes) : ∀ cs ∈ csS l, ∀ x ∈ cs, ∃ u, x = .sc u ∧ u.oneCell' = true := fun cs h x hx => by
  obtain ⟨t, _, rfl⟩ := List.mem_map.1 h
  simp only [List.mem_cons, List.not_mem_nil, or_false] at hx
  rcases hx with rfl <;> exact ⟨_, rfl, rfl⟩
theorem clt_0 (G : Nat) (M : RM) : ACo Tryz.prog 39 [.sl []] [⟨G, .obj (RawP M)⟩] (fun y os' => ∃ M', os' = [⟨G, .obj (RawP M')⟩] ∧ Mt M' y (.sl []) ∧ RM.Le M M') := by
  refine ACo.arg0 fun A c hc => ?_; refine ACo.of' (st0 := [⟨G, .obj (RawP M)⟩, TK.mk 0 .off, TK.mk 0 .off]) 7 2 Tryz.func39 rfl 1 ?_; refine AW.seq (AW.region ?_); refine AL.ra ?_; refine AL.nil ?_; change AW _ _ _ _ _; refine AW.seq ?_; refine AW.seq (AW.region ?_); refine AL.rm ?_; refine AL.r (rd_snil_v rfl el_24 rfl rfl) ?_; refine AL.nil ?_; change AW _ _ _ _ _; refine AW.cd rfl (fun h4 => ?_) (fun h4 => ?_)
  ·refine AW.seq (AW.region ?_); refine AL.ra ?_; refine AL.nil ?_; change AW _ _ _ _ _; refine AW.ret ?_
   repeat with_reducible first | refine thenA_ret ?_ | refine inBlockA_ret ?_
   with_reducible first | refine retO_ret ?_ | refine retO_normal ?_
   refine reso1S rfl (ResV.tmp rfl) rfl ?_
   first | exact ⟨M, rfl, .inl ⟨rfl, rfl⟩, RM.Le.refl M⟩ | exact ⟨M, rfl, .inr ⟨_, rfl, rfl, .sl0 _ _ (Nat.zero_le _)⟩, RM.Le.refl M⟩
  ·refine AW.skip ?_; change AW _ _ _ _ _; refine AW.seq (AW.region ?_); refine AL.op rfl (AOpB.op (bs_own 1 rfl ap_24 ze_34 rfl rfl rfl ?_)); refine AL.no ?_; refine AL.rm ?_; refine AL.op rfl (op_append rfl ap_24 rfl rfl (src_v0 rfl) (by first | omega | (simp; omega) | simp) (by first | omega | (simp; omega) | simp) ?_); refine AL.no ?_; refine AL.ra ?_; refine AL.nil ?_; change AW _ _ _ _ _; refine AW.ret ?_
   repeat with_reducible first | refine thenA_ret ?_ | refine inBlockA_ret ?_
   with_reducible first | refine retO_ret ?_ | refine retO_normal ?_
   refine reso1S rfl (ResV.tmp rfl) (by first | exact resO_owM (by decide) rfl | exact resO_own (by decide) rfl | exact resO_set (by decide) rfl | exact resO_setM (by decide) rfl | exact resO_setN (by decide) rfl) ?_
   first | exact ⟨M, rfl, .inl ⟨rfl, rfl⟩, RM.Le.refl M⟩ | exact ⟨M, rfl, .inr ⟨_, rfl, rfl, .sl0 _ _ (Nat.zero_le _)⟩, RM.Le.refl M⟩
theorem clt_r (G : Nat) (M : RM) (l : List TagD) (hl : l.length ≤ 1000000) : ACo Tryz.prog 39 [.sl (l.map TagD.cs)] [⟨G, .obj (RawP M)⟩] (fun y os' => ∃ u M', y = .sc u ∧ os' = [⟨G, .obj (RawP M')⟩] ∧ u.oneCell' = true ∧ RawS M' u (.sl (l.map TagD.cs)) ∧ RM.Le M M') := by
  refine ACo.rsl ?_
  rcases Nat.eq_zero_or_pos l.length with h0 | h0
  · obtain rfl := List.eq_nil_of_length_eq_zero h0
    exact clt_0 G M
  refine ACo.of' (st0 := [⟨G, .obj (RawP M)⟩, TK.mk 0 .off, TK.mk 0 .off]) 7 2 Tryz.func39 rfl 1 ?_; refine AW.seq (AW.region ?_); refine AL.ra ?_; refine AL.nil ?_; change AW _ _ _ _ _; refine AW.seq ?_; refine AW.seq (AW.region ?_); refine AL.rm ?_; refine AL.r (rd_snil_c rfl el_24 rfl (by first | assumption | (simp only [csS_len, List.length_map]; omega)) rfl) ?_; refine AL.nil ?_; change AW _ _ _ _ _; refine AW.cond_f rfl ?_; refine AW.skip ?_; change AW _ _ _ _ _; refine AW.seq (AW.region ?_); refine AL.op rfl (AOpB.op (bs_own 1 rfl ap_24 ze_34 rfl rfl rfl ?_)); refine AL.no ?_; refine AL.rm ?_; refine AL.op rfl (op_append rfl ap_24 rfl rfl (src_s rfl) (by simp only [List.length_nil, List.length_map, csS_len]; omega) (by simp only [List.length_nil, List.length_map, csS_len]; omega) ?_); refine AL.no ?_; refine AL.own_raw (q := 0) 7 rfl rfl rfl ?_; intro b c vs hbb hmb hsb hlb hnb hcb hzb
  refine AL.no ?_; refine AL.ra ?_; refine AL.nil ?_; change AW _ _ _ _ _; refine AW.ret ?_
  repeat with_reducible first | refine thenA_ret ?_ | refine inBlockA_ret ?_
  with_reducible first | refine retO_ret ?_ | refine retO_normal ?_
  refine reso1S rfl (ResV.tmp rfl) rfl ?_; simp only [csS_len, List.length_map] at hlb
  have key := Mt.rows (M := M) (T := 34) (plainT l) (by simpa only [csS_len, List.length_map] using h0) hmb (by simpa only [csS_len, List.length_map] using hlb) (by decide) hnb hcb hzb hbb
  simp only [csS_len, List.length_map] at key
  exact ⟨_, rfl, .inr ⟨_, rfl, rfl, key⟩, RM.Le.new _ hbb⟩
theorem cls_0 (G : Nat) (M : RM) : ACo Tryz.prog 91 [.sl []] [⟨G, .obj (RawP M)⟩] (fun y os' => ∃ M', os' = [⟨G, .obj (RawP M')⟩] ∧ Mt M' y (.sl []) ∧ RM.Le M M') := by
  refine ACo.arg0 fun A c hc => ?_; refine ACo.of' (st0 := [⟨G, .obj (RawP M)⟩, TK.mk 0 .off, TK.mk 0 .off]) 7 2 Tryz.func91 rfl 1 ?_; refine AW.seq (AW.region ?_); refine AL.ra ?_; refine AL.nil ?_; change AW _ _ _ _ _; refine AW.seq ?_; refine AW.seq (AW.region ?_); refine AL.rm ?_; refine AL.r (rd_snil_v rfl el_37 rfl rfl) ?_; refine AL.nil ?_; change AW _ _ _ _ _; refine AW.cd rfl (fun h4 => ?_) (fun h4 => ?_)
  ·refine AW.seq (AW.region ?_); refine AL.ra ?_; refine AL.nil ?_; change AW _ _ _ _ _; refine AW.ret ?_
   repeat with_reducible first | refine thenA_ret ?_ | refine inBlockA_ret ?_
   with_reducible first | refine retO_ret ?_ | refine retO_normal ?_
   refine reso1S rfl (ResV.tmp rfl) rfl ?_
   first | exact ⟨M, rfl, .inl ⟨rfl, rfl⟩, RM.Le.refl M⟩ | exact ⟨M, rfl, .inr ⟨_, rfl, rfl, .sl0 _ _ (Nat.zero_le _)⟩, RM.Le.refl M⟩
  ·refine AW.skip ?_; change AW _ _ _ _ _; refine AW.seq (AW.region ?_); refine AL.op rfl (AOpB.op (bs_own 1 rfl ap_37 ze_9 rfl rfl rfl ?_)); refine AL.no ?_; refine AL.rm ?_; refine AL.op rfl (op_append rfl ap_37 rfl rfl (src_v0 rfl) (by first | omega | (simp; omega) | simp) (by first | omega | (simp; omega) | simp) ?_); refine AL.no ?_; refine AL.ra ?_; refine AL.nil ?_; change AW _ _ _ _ _; refine AW.ret ?_
   repeat with_reducible first | refine thenA_ret ?_ | refine inBlockA_ret ?_
   with_reducible first | refine retO_ret ?_ | refine retO_normal ?_
   refine reso1S rfl (ResV.tmp rfl) (by first | exact resO_owM (by decide) rfl | exact resO_own (by decide) rfl | exact resO_set (by decide) rfl | exact resO_setM (by decide) rfl | exact resO_setN (by decide) rfl) ?_
   first | exact ⟨M, rfl, .inl ⟨rfl, rfl⟩, RM.Le.refl M⟩ | exact ⟨M, rfl, .inr ⟨_, rfl, rfl, .sl0 _ _ (Nat.zero_le _)⟩, RM.Le.refl M⟩
theorem cls_r (G : Nat) (M : RM) (l : List Bytes) (hl : l.length ≤ 1000000) : ACo Tryz.prog 91 [.sl (csS l)] [⟨G, .obj (RawP M)⟩] (fun y os' => ∃ u M', y = .sc u ∧ os' = [⟨G, .obj (RawP M')⟩] ∧ u.oneCell' = true ∧ RawS M' u (.sl (csS l)) ∧ RM.Le M M') := by
  refine ACo.rsl ?_
  rcases Nat.eq_zero_or_pos l.length with h0 | h0
  · obtain rfl := List.eq_nil_of_length_eq_zero h0
    exact cls_0 G M
  refine ACo.of' (st0 := [⟨G, .obj (RawP M)⟩, TK.mk 0 .off, TK.mk 0 .off]) 7 2 Tryz.func91 rfl 1 ?_; refine AW.seq (AW.region ?_); refine AL.ra ?_; refine AL.nil ?_; change AW _ _ _ _ _; refine AW.seq ?_; refine AW.seq (AW.region ?_); refine AL.rm ?_; refine AL.r (rd_snil_c rfl el_37 rfl (by first | assumption | (simp only [csS_len, List.length_map]; omega)) rfl) ?_; refine AL.nil ?_; change AW _ _ _ _ _; refine AW.cond_f rfl ?_; refine AW.skip ?_; change AW _ _ _ _ _; refine AW.seq (AW.region ?_); refine AL.op rfl (AOpB.op (bs_own 1 rfl ap_37 ze_9 rfl rfl rfl ?_)); refine AL.no ?_; refine AL.rm ?_; refine AL.op rfl (op_append rfl ap_37 rfl rfl (src_s rfl) (by simp only [List.length_nil, List.length_map, csS_len]; omega) (by simp only [List.length_nil, List.length_map, csS_len]; omega) ?_); refine AL.no ?_; refine AL.own_raw (q := 0) 7 rfl rfl rfl ?_; intro b c vs hbb hmb hsb hlb hnb hcb hzb
  refine AL.no ?_; refine AL.ra ?_; refine AL.nil ?_; change AW _ _ _ _ _; refine AW.ret ?_
  repeat with_reducible first | refine thenA_ret ?_ | refine inBlockA_ret ?_
  with_reducible first | refine retO_ret ?_ | refine retO_normal ?_
  refine reso1S rfl (ResV.tmp rfl) rfl ?_; simp only [csS_len, List.length_map] at hlb
  have key := Mt.rows (M := M) (T := 9) (plainS l) (by simpa only [csS_len, List.length_map] using h0) hmb (by simpa only [csS_len, List.length_map] using hlb) (by decide) hnb hcb hzb hbb
  simp only [csS_len, List.length_map] at key
  exact ⟨_, rfl, .inr ⟨_, rfl, rfl, key⟩, RM.Le.new _ hbb⟩
theorem clp_0 (G : Nat) (M : RM) : ACo Tryz.prog 92 [.sl []] [⟨G, .obj (RawP M)⟩] (fun y os' => ∃ M', os' = [⟨G, .obj (RawP M')⟩] ∧ Mt M' y (.sl []) ∧ RM.Le M M') := by
  refine ACo.arg0 fun A c hc => ?_; refine ACo.of' (st0 := [⟨G, .obj (RawP M)⟩, TK.mk 0 .off, TK.mk 0 .off]) 7 2 Tryz.func92 rfl 1 ?_; refine AW.seq (AW.region ?_); refine AL.ra ?_; refine AL.nil ?_; change AW _ _ _ _ _; refine AW.seq ?_; refine AW.seq (AW.region ?_); refine AL.rm ?_; refine AL.r (rd_snil_v rfl el_40 rfl rfl) ?_; refine AL.nil ?_; change AW _ _ _ _ _; refine AW.cd rfl (fun h4 => ?_) (fun h4 => ?_)
  ·refine AW.seq (AW.region ?_); refine AL.ra ?_; refine AL.nil ?_; change AW _ _ _ _ _; refine AW.ret ?_
   repeat with_reducible first | refine thenA_ret ?_ | refine inBlockA_ret ?_
   with_reducible first | refine retO_ret ?_ | refine retO_normal ?_
   refine reso1S rfl (ResV.tmp rfl) rfl ?_
   first | exact ⟨M, rfl, .inl ⟨rfl, rfl⟩, RM.Le.refl M⟩ | exact ⟨M, rfl, .inr ⟨_, rfl, rfl, .sl0 _ _ (Nat.zero_le _)⟩, RM.Le.refl M⟩
  ·refine AW.skip ?_; change AW _ _ _ _ _; refine AW.seq (AW.region ?_); refine AL.op rfl (AOpB.op (bs_own 1 rfl ap_40 ze_46 rfl rfl rfl ?_)); refine AL.no ?_; refine AL.rm ?_; refine AL.op rfl (op_append rfl ap_40 rfl rfl (src_v0 rfl) (by first | omega | (simp; omega) | simp) (by first | omega | (simp; omega) | simp) ?_); refine AL.no ?_; refine AL.ra ?_; refine AL.nil ?_; change AW _ _ _ _ _; refine AW.ret ?_
   repeat with_reducible first | refine thenA_ret ?_ | refine inBlockA_ret ?_
   with_reducible first | refine retO_ret ?_ | refine retO_normal ?_
   refine reso1S rfl (ResV.tmp rfl) (by first | exact resO_owM (by decide) rfl | exact resO_own (by decide) rfl | exact resO_set (by decide) rfl | exact resO_setM (by decide) rfl | exact resO_setN (by decide) rfl) ?_
   first | exact ⟨M, rfl, .inl ⟨rfl, rfl⟩, RM.Le.refl M⟩ | exact ⟨M, rfl, .inr ⟨_, rfl, rfl, .sl0 _ _ (Nat.zero_le _)⟩, RM.Le.refl M⟩
theorem clp_r (G : Nat) (M : RM) (l : List PairD) (hl : l.length ≤ 1000000) : ACo Tryz.prog 92 [.sl (l.map PairD.cs)] [⟨G, .obj (RawP M)⟩] (fun y os' => ∃ u M', y = .sc u ∧ os' = [⟨G, .obj (RawP M')⟩] ∧ u.oneCell' = true ∧ RawS M' u (.sl (l.map PairD.cs)) ∧ RM.Le M M') := by
  refine ACo.rsl ?_
  rcases Nat.eq_zero_or_pos l.length with h0 | h0
  · obtain rfl := List.eq_nil_of_length_eq_zero h0
    exact clp_0 G M
  refine ACo.of' (st0 := [⟨G, .obj (RawP M)⟩, TK.mk 0 .off, TK.mk 0 .off]) 7 2 Tryz.func92 rfl 1 ?_; refine AW.seq (AW.region ?_); refine AL.ra ?_; refine AL.nil ?_; change AW _ _ _ _ _; refine AW.seq ?_; refine AW.seq (AW.region ?_); refine AL.rm ?_; refine AL.r (rd_snil_c rfl el_40 rfl (by first | assumption | (simp only [csS_len, List.length_map]; omega)) rfl) ?_; refine AL.nil ?_; change AW _ _ _ _ _; refine AW.cond_f rfl ?_; refine AW.skip ?_; change AW _ _ _ _ _; refine AW.seq (AW.region ?_); refine AL.op rfl (AOpB.op (bs_own 1 rfl ap_40 ze_46 rfl rfl rfl ?_)); refine AL.no ?_; refine AL.rm ?_; refine AL.op rfl (op_append rfl ap_40 rfl rfl (src_s rfl) (by simp only [List.length_nil, List.length_map, csS_len]; omega) (by simp only [List.length_nil, List.length_map, csS_len]; omega) ?_); refine AL.no ?_; refine AL.own_raw (q := 0) 7 rfl rfl rfl ?_; intro b c vs hbb hmb hsb hlb hnb hcb hzb
  refine AL.no ?_; refine AL.ra ?_; refine AL.nil ?_; change AW _ _ _ _ _; refine AW.ret ?_
  repeat with_reducible first | refine thenA_ret ?_ | refine inBlockA_ret ?_
  with_reducible first | refine retO_ret ?_ | refine retO_normal ?_
  refine reso1S rfl (ResV.tmp rfl) rfl ?_; simp only [csS_len, List.length_map] at hlb
  have key := Mt.rows (M := M) (T := 46) (plainP l) (by simpa only [csS_len, List.length_map] using h0) hmb (by simpa only [csS_len, List.length_map] using hlb) (by decide) hnb hcb hzb hbb
  simp only [csS_len, List.length_map] at key
  exact ⟨_, rfl, .inr ⟨_, rfl, rfl, key⟩, RM.Le.new _ hbb⟩
theorem cle_0 (G : Nat) (M : RM) : ACo Tryz.prog 40 [.sl []] [⟨G, .obj (RawP M)⟩] (fun y os' => ∃ M', os' = [⟨G, .obj (RawP M')⟩] ∧ Mt M' y (.sl []) ∧ RM.Le M M') := by
  refine ACo.arg0 fun A c hc => ?_; refine ACo.of' (st0 := [⟨G, .obj (RawP M)⟩, TK.mk 0 .off, TK.mk 0 .off]) 7 2 Tryz.func40 rfl 1 ?_; refine AW.seq (AW.region ?_); refine AL.ra ?_; refine AL.nil ?_; change AW _ _ _ _ _; refine AW.seq ?_; refine AW.seq (AW.region ?_); refine AL.rm ?_; refine AL.r (rd_snil_v rfl el_25 rfl rfl) ?_; refine AL.nil ?_; change AW _ _ _ _ _; refine AW.cd rfl (fun h4 => ?_) (fun h4 => ?_)
  ·refine AW.seq (AW.region ?_); refine AL.ra ?_; refine AL.nil ?_; change AW _ _ _ _ _; refine AW.ret ?_
   repeat with_reducible first | refine thenA_ret ?_ | refine inBlockA_ret ?_
   with_reducible first | refine retO_ret ?_ | refine retO_normal ?_
   refine reso1S rfl (ResV.tmp rfl) rfl ?_
   first | exact ⟨M, rfl, .inl ⟨rfl, rfl⟩, RM.Le.refl M⟩ | exact ⟨M, rfl, .inr ⟨_, rfl, rfl, .sl0 _ _ (Nat.zero_le _)⟩, RM.Le.refl M⟩
  ·refine AW.skip ?_; change AW _ _ _ _ _; refine AW.seq (AW.region ?_); refine AL.op rfl (AOpB.op (bs_own 1 rfl ap_25 ze_44 rfl rfl rfl ?_)); refine AL.no ?_; refine AL.rm ?_; refine AL.op rfl (op_append rfl ap_25 rfl rfl (src_v0 rfl) (by first | omega | (simp; omega) | simp) (by first | omega | (simp; omega) | simp) ?_); refine AL.no ?_; refine AL.ra ?_; refine AL.nil ?_; change AW _ _ _ _ _; refine AW.ret ?_
   repeat with_reducible first | refine thenA_ret ?_ | refine inBlockA_ret ?_
   with_reducible first | refine retO_ret ?_ | refine retO_normal ?_
   refine reso1S rfl (ResV.tmp rfl) (by first | exact resO_owM (by decide) rfl | exact resO_own (by decide) rfl | exact resO_set (by decide) rfl | exact resO_setM (by decide) rfl | exact resO_setN (by decide) rfl) ?_
   first | exact ⟨M, rfl, .inl ⟨rfl, rfl⟩, RM.Le.refl M⟩ | exact ⟨M, rfl, .inr ⟨_, rfl, rfl, .sl0 _ _ (Nat.zero_le _)⟩, RM.Le.refl M⟩
theorem cle_p (l : List EdgeD) (hl : l.length ≤ 1000000) (h0 : 0 < l.length) : AC Tryz.prog 40 [.sl (l.map EdgeD.cs)] (fun r => r = .o 44 20 (l.map EdgeD.cs)) := by
  refine AC.of' 7 2 Tryz.func40 rfl ?_; change AW _ _ _ _ [TK.mk 0 .off, TK.mk 0 .off]; refine AW.seq (AW.region ?_); refine AL.ra ?_; refine AL.nil ?_; change AW _ _ _ _ _; refine AW.seq ?_; refine AW.seq (AW.region ?_); refine AL.rm ?_; refine AL.r (rd_snil_c rfl el_25 rfl (by first | assumption | (simp only [csS_len, List.length_map]; omega)) rfl) ?_; refine AL.nil ?_; change AW _ _ _ _ _; refine AW.cond_f rfl ?_; refine AW.skip ?_; change AW _ _ _ _ _; refine AW.seq (AW.region ?_); refine AL.op rfl (AOpB.op (bs_own 0 rfl ap_25 ze_44 rfl rfl rfl ?_)); refine AL.n ?_; refine AL.rm ?_; refine AL.op rfl (op_append rfl ap_25 rfl rfl (src_s rfl) (by simp only [List.length_nil, List.length_map]; omega) (by simp only [List.length_nil, List.length_map]; omega) ?_); refine AL.n ?_; refine AL.ra ?_; refine AL.nil ?_; change AW _ _ _ _ _; refine AW.ret ?_; change ResA _ _ _ _ _
  refine res1o rfl (ResV.tmp rfl) rfl ?_; rfl
theorem cle_n (G : Nat) (M : RM) : ACo Tryz.prog 40 [.sl []] [⟨G, .obj (RawP M)⟩] (fun y os' => ∃ A c M', y = .sc (.slice A 0 c) ∧ os' = [⟨G, .obj (RawP M')⟩] ∧ c ≤ maxLen ∧ RM.Le M M') :=
  (cle_0 G M).rsl.mono fun y os' ⟨u, M', h1, h2, _, h3, h4⟩ => by
    obtain ⟨A, c, h5, h6, _⟩ := h3.inv
    exact ⟨A, c, M', by rw [h1, h5]; rfl, h2, h6, h4⟩
theorem clo_0 (G : Nat) (M : RM) : ACo Tryz.prog 42 [.sl []] [⟨G, .obj (RawP M)⟩] (fun y os' => ∃ M', os' = [⟨G, .obj (RawP M')⟩] ∧ Mt M' y (.sl []) ∧ RM.Le M M') := by
  refine ACo.arg0 fun A c hc => ?_; refine ACo.of' (st0 := [⟨G, .obj (RawP M)⟩, TK.mk 0 .off, TK.mk 0 .off]) 7 2 Tryz.func42 rfl 1 ?_; refine AW.seq (AW.region ?_); refine AL.ra ?_; refine AL.nil ?_; change AW _ _ _ _ _; refine AW.seq ?_; refine AW.seq (AW.region ?_); refine AL.rm ?_; refine AL.r (rd_snil_v rfl el_26 rfl rfl) ?_; refine AL.nil ?_; change AW _ _ _ _ _; refine AW.cd rfl (fun h4 => ?_) (fun h4 => ?_)
  ·refine AW.seq (AW.region ?_); refine AL.ra ?_; refine AL.nil ?_; change AW _ _ _ _ _; refine AW.ret ?_
   repeat with_reducible first | refine thenA_ret ?_ | refine inBlockA_ret ?_
   with_reducible first | refine retO_ret ?_ | refine retO_normal ?_
   refine reso1S rfl (ResV.tmp rfl) rfl ?_
   first | exact ⟨M, rfl, .inl ⟨rfl, rfl⟩, RM.Le.refl M⟩ | exact ⟨M, rfl, .inr ⟨_, rfl, rfl, .sl0 _ _ (Nat.zero_le _)⟩, RM.Le.refl M⟩
  ·refine AW.skip ?_; change AW _ _ _ _ _; refine AW.seq (AW.region ?_); refine AL.op rfl (AOpB.op (bs_own 1 rfl ap_26 ze_48 rfl rfl rfl ?_)); refine AL.no ?_; refine AL.rm ?_; refine AL.op rfl (op_append rfl ap_26 rfl rfl (src_v0 rfl) (by first | omega | (simp; omega) | simp) (by first | omega | (simp; omega) | simp) ?_); refine AL.no ?_; refine AL.ra ?_; refine AL.nil ?_; change AW _ _ _ _ _; refine AW.ret ?_
   repeat with_reducible first | refine thenA_ret ?_ | refine inBlockA_ret ?_
   with_reducible first | refine retO_ret ?_ | refine retO_normal ?_
   refine reso1S rfl (ResV.tmp rfl) (by first | exact resO_owM (by decide) rfl | exact resO_own (by decide) rfl | exact resO_set (by decide) rfl | exact resO_setM (by decide) rfl | exact resO_setN (by decide) rfl) ?_
   first | exact ⟨M, rfl, .inl ⟨rfl, rfl⟩, RM.Le.refl M⟩ | exact ⟨M, rfl, .inr ⟨_, rfl, rfl, .sl0 _ _ (Nat.zero_le _)⟩, RM.Le.refl M⟩
theorem clo_p (l : List OpD) (hl : l.length ≤ 1000000) (h0 : 0 < l.length) : AC Tryz.prog 42 [.sl (l.map OpD.cs)] (fun r => r = .o 48 15 (l.map OpD.cs)) := by
  refine AC.of' 7 2 Tryz.func42 rfl ?_; change AW _ _ _ _ [TK.mk 0 .off, TK.mk 0 .off]; refine AW.seq (AW.region ?_); refine AL.ra ?_; refine AL.nil ?_; change AW _ _ _ _ _; refine AW.seq ?_; refine AW.seq (AW.region ?_); refine AL.rm ?_; refine AL.r (rd_snil_c rfl el_26 rfl (by first | assumption | (simp only [csS_len, List.length_map]; omega)) rfl) ?_; refine AL.nil ?_; change AW _ _ _ _ _; refine AW.cond_f rfl ?_; refine AW.skip ?_; change AW _ _ _ _ _; refine AW.seq (AW.region ?_); refine AL.op rfl (AOpB.op (bs_own 0 rfl ap_26 ze_48 rfl rfl rfl ?_)); refine AL.n ?_; refine AL.rm ?_; refine AL.op rfl (op_append rfl ap_26 rfl rfl (src_s rfl) (by simp only [List.length_nil, List.length_map]; omega) (by simp only [List.length_nil, List.length_map]; omega) ?_); refine AL.n ?_; refine AL.ra ?_; refine AL.nil ?_; change AW _ _ _ _ _; refine AW.ret ?_; change ResA _ _ _ _ _
  refine res1o rfl (ResV.tmp rfl) rfl ?_; rfl
theorem clo_n (G : Nat) (M : RM) : ACo Tryz.prog 42 [.sl []] [⟨G, .obj (RawP M)⟩] (fun y os' => ∃ A c M', y = .sc (.slice A 0 c) ∧ os' = [⟨G, .obj (RawP M')⟩] ∧ c ≤ maxLen ∧ RM.Le M M') :=
  (clo_0 G M).rsl.mono fun y os' ⟨u, M', h1, h2, _, h3, h4⟩ => by
    obtain ⟨A, c, h5, h6, _⟩ := h3.inv
    exact ⟨A, c, M', by rw [h1, h5]; rfl, h2, h6, h4⟩
end Go.Proofs.YtlapcfnmmpbeeaaGreat
