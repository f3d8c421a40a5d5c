/- Lenses and their ways back: the program's, the reference's, and the law BackInverse, walked over abstract states. -/
import Derived.Test.YtdgcbhihmnhnaaaLenI
import Derived.Test.YtdgcbhihmnhnaaaSchR
import Derived.Test.YtdgcbhihmnhnaaaJa
import Derived.Test.YtdgcbhihmnhnaaaFre
namespace Go.Proofs.Ytdgcbhihmnhnaaa
set_option linter.unusedSimpArgs false
set_option linter.unusedVariables false
set_option maxRecDepth 100000
set_option maxRecDepth 100000
open Go.RowKit

def scB : AV → Bool
  | .sc (.slice _ _ _) => false
  | .sc _ => true
  | .sl _ => true
  | _ => false
theorem set1_sc {st : List TK} {x : AV} (h : scB x = true) : set1 st x = some x := by
  cases x with
  | sc v => cases v <;> first | rfl | cases h
  | sl xs => rfl
  | _ => cases h
theorem sets_sc {st : List TK} : ∀ {zs : List AV}, zs.all scB = true → sets st zs = some zs
  | [], _ => rfl
  | x :: xs, h => by
    rw [List.all_cons, Bool.and_eq_true] at h
    unfold sets
    rw [set1_sc h.1, sets_sc h.2]
theorem setA_sc {st : List TK} {zs : List AV} (h : zs.all scB = true) : setA st (.ag zs) = some (.ag zs) := by
  show (match sets st zs with | some ys => some (AV.ag ys) | none => none) = some (AV.ag zs)
  rw [sets_sc h]
set_option maxHeartbeats 2000000 in
theorem lown_c (x : LensD) (h : x.Small) : AC Try.prog 62 [x.av] (fun r => r = .s (.ag [AI x.kind, AI x.at_.scope, AS x.at_.group, AS x.at_.name, AS x.name, AS x.other, AI x.factor, AI x.field.at_.scope, AS x.field.at_.group, AS x.field.at_.name, AI x.field.kind, AS x.field.dflt, .sl (csS x.field.cases), AI x.field.worth, .sl (x.forth.map PairD.cs), .sl (x.back.map PairD.cs)])) := by
  have h1 := h.cases; have h2 := h.forth; have h3 := h.back
  change AC _ _ [.ag [AI x.kind, AI x.at_.scope, AS x.at_.group, AS x.at_.name, AS x.name, AS x.other, AI x.factor, AI x.field.at_.scope, AS x.field.at_.group, AS x.field.at_.name, AI x.field.kind, AS x.field.dflt, .sl (csS x.field.cases), AI x.field.worth, .sl (x.forth.map PairD.cs), .sl (x.back.map PairD.cs)]] _
  refine AC.of' 15 4 Try.func62 rfl ?_
  change AW _ _ _ _ [TK.mk 0 .off, TK.mk 0 .off, TK.mk 0 .off, TK.mk 0 .off]
  refine AW.seq ?_
  refine AW.region ?_
  refine AL.op rfl (AOpB.op (op_box 0 rfl rfl rfl rfl rfl ?_))
  refine AL.n ?_
  refine AL.op rfl (AOpB.op (op_alloc 1 rfl ze_50 rfl ?_))
  refine AL.n ?_
  refine AL.nil ?_
  change AW _ _ _ _ _
  refine AW.seq ?_
  refine AW.region ?_
  refine AL.r (rd_faddr_bx rfl fo_50_5 rfl rfl ⟨_, _, rfl⟩) ?_
  refine AL.r (rd_loadN_bx rfl ag_47 rfl rfl (Nat.le_of_ble_eq_true rfl) rfl) ?_
  refine AL.op rfl (AOpB.op (op_call (own_c x.field (by omega)) rfl (by kernel_rfl) rfl (none) ?_))
  rintro r rfl
  refine AL.n ?_
  refine AL.r (rd_faddr_bx rfl fo_50_5 rfl rfl ⟨_, _, rfl⟩) ?_
  refine AL.op rfl (op_store_ rfl rfl rfl rfl rfl sz_47 ?_)
  refine AL.b ?_
  refine AL.nil ?_
  change AW _ _ _ _ _
  refine AW.seq ?_
  refine AW.region ?_
  refine AL.r (rd_faddr_bx rfl fo_50_6 rfl rfl ⟨_, _, rfl⟩) ?_
  refine AL.r (rd_load_bx rfl ag_48 rfl rfl rfl) ?_
  refine AL.op rfl (AOpB.op (op_append_s rfl ap_48 rfl (src_s rfl) (by first | omega | (simp; omega) | simp) (by first | omega | (simp; omega) | simp) ?_))
  refine AL.n ?_
  refine AL.r (rd_faddr_bx rfl fo_50_6 rfl rfl ⟨_, _, rfl⟩) ?_
  refine AL.op rfl (op_store_ rfl rfl rfl rfl rfl sz_48 ?_)
  refine AL.b ?_
  refine AL.nil ?_
  change AW _ _ _ _ _
  refine AW.seq ?_
  refine AW.region ?_
  refine AL.r (rd_faddr_bx rfl fo_50_7 rfl rfl ⟨_, _, rfl⟩) ?_
  refine AL.r (rd_load_bx rfl ag_48 rfl rfl rfl) ?_
  refine AL.op rfl (AOpB.op (op_append_s rfl ap_48 rfl (src_s rfl) (by first | omega | (simp; omega) | simp) (by first | omega | (simp; omega) | simp) ?_))
  refine AL.n ?_
  refine AL.r (rd_faddr_bx rfl fo_50_7 rfl rfl ⟨_, _, rfl⟩) ?_
  refine AL.op rfl (op_store_ rfl rfl rfl rfl rfl sz_48 ?_)
  refine AL.b ?_
  refine AL.nil ?_
  change AW _ _ _ _ _
  refine AW.seq ?_
  refine AW.region ?_
  refine AL.r (rd_loadN_bx rfl ag_50 rfl rfl (Nat.le_of_ble_eq_true rfl) rfl) ?_
  refine AL.op rfl (op_store_ rfl rfl rfl rfl rfl sz_50 ?_)
  refine AL.b ?_
  refine AL.nil ?_
  change AW _ _ _ _ _
  refine AW.ret ?_
  change ResA _ _ _ _ _
  refine res1 rfl (ResV.cells rfl rfl ag_50 (Nat.le_of_ble_eq_true rfl) rfl) (by first | exact setA_sc rfl | rfl) ?_
  rfl
theorem rtables15_c (x : LensD) : AC Try.prog 122 [x.av] (fun r => r = .s (AB (tabsL x))) := rtabs_c x
theorem rnone_c (x : LensD) (h : x.Small) : AC Try.prog 124 [x.av] (fun r => r = .s (AB (decide (x.field = zeroFL)))) := by
  have h1 := h.cases
  change AC _ _ [.ag [AI x.kind, AI x.at_.scope, AS x.at_.group, AS x.at_.name, AS x.name, AS x.other, AI x.factor, AI x.field.at_.scope, AS x.field.at_.group, AS x.field.at_.name, AI x.field.kind, AS x.field.dflt, .sl (csS x.field.cases), AI x.field.worth, .sl (x.forth.map PairD.cs), .sl (x.back.map PairD.cs)]] _
  refine AC.of' 6 1 Try.func124 rfl ?_
  change AW _ _ _ _ [TK.mk 0 .off]
  refine AW.seq ?_
  refine AW.region ?_
  refine AL.op rfl (AOpB.op (op_box 0 rfl rfl rfl rfl rfl ?_))
  refine AL.n ?_
  refine AL.ra ?_
  refine AL.nil ?_
  change AW _ _ _ _ _
  refine AW.seq ?_
  refine AW.region ?_
  refine AL.r (rd_faddr_bx rfl fo_50_5 rfl rfl ⟨_, _, rfl⟩) ?_
  refine AL.r (rd_loadN_bx rfl ag_47 rfl rfl (Nat.le_of_ble_eq_true rfl) rfl) ?_
  refine AL.r (rd_build rfl pl_47 ze_47 rfl rfl) ?_
  refine AL.op rfl (AOpB.op (op_call (rsame_c x.field zeroFL (by omega)) rfl (by kernel_rfl) rfl (none) ?_))
  rintro r rfl
  refine AL.n ?_
  refine AL.ra ?_
  refine AL.nil ?_
  change AW _ _ _ _ _
  refine AW.ret ?_
  change ResA _ _ _ _ _
  refine res1 rfl (ResV.tmp rfl) rfl ?_
  rfl
theorem rother_c (k : Int) : AC Try.prog 128 [AI k] (fun r => r = .s (AI (otherK k))) := by
  refine AC.of' 35 0 Try.func128 rfl ?_
  change AW _ _ _ _ []
  refine AW.seq ?_
  refine AW.region ?_
  refine AL.ra ?_
  refine AL.nil ?_
  change AW _ _ _ _ _
  refine AW.seq ?_
  refine AW.seq ?_
  refine AW.region ?_
  refine AL.rm ?_
  refine AL.r (rd_bin rfl rfl rfl (fun _ => rfl)) ?_
  refine AL.rm ?_
  refine AL.fk (d := 5) rfl (fun h5 => ?_) (fun h5 => ?_)
  ·skip
   refine AL.n ?_
   refine AL.rf ?_
   refine AL.rf ?_
   refine AL.r (rd_pick_t rfl rfl rfl) ?_
   refine AL.nil ?_
   change AW _ _ _ _ _
   refine AW.cond_t rfl ?_
   refine AW.seq ?_
   refine AW.region ?_
   refine AL.rm ?_
   refine AL.r (rd_arith_sub rfl rfl rfl (by first | exact IntWalk.i64_in _ (by omega) | rfl)) ?_
   refine AL.ra ?_
   refine AL.nil ?_
   change AW _ _ _ _ _
   refine AW.ret ?_
   change ResA _ _ _ _ _
   refine res1 rfl (ResV.tmp rfl) rfl ?_
   simp_all [otherK]
  ·skip
   refine AL.n ?_
   refine AL.ro (rd_move rfl rfl) ?_
   refine AL.ro (rd_bin rfl rfl rfl (fun _ => rfl)) ?_
   refine AL.r (rd_pick_f rfl rfl rfl) ?_
   refine AL.nil ?_
   change AW _ _ _ _ _
   refine AW.cd rfl (fun h8 => ?_) (fun h8 => ?_)
   ·skip
    refine AW.seq ?_
    refine AW.region ?_
    refine AL.rm ?_
    refine AL.r (rd_arith_sub rfl rfl rfl (by first | exact IntWalk.i64_in _ (by omega) | rfl)) ?_
    refine AL.ra ?_
    refine AL.nil ?_
    change AW _ _ _ _ _
    refine AW.ret ?_
    change ResA _ _ _ _ _
    refine res1 rfl (ResV.tmp rfl) rfl ?_
    simp_all [otherK]
   ·skip
    refine AW.skip ?_
    change AW _ _ _ _ _
    refine AW.seq ?_
    refine AW.seq ?_
    refine AW.region ?_
    refine AL.rm ?_
    refine AL.r (rd_bin rfl rfl rfl (fun _ => rfl)) ?_
    refine AL.rm ?_
    refine AL.fk (d := 13) rfl (fun h13 => ?_) (fun h13 => ?_)
    ·skip
     refine AL.n ?_
     refine AL.rf ?_
     refine AL.rf ?_
     refine AL.r (rd_pick_t rfl rfl rfl) ?_
     refine AL.nil ?_
     change AW _ _ _ _ _
     refine AW.cond_t rfl ?_
     refine AW.seq ?_
     refine AW.region ?_
     refine AL.rm ?_
     refine AL.r (rd_arith_sub rfl rfl rfl (by first | exact IntWalk.i64_in _ (by omega) | rfl)) ?_
     refine AL.ra ?_
     refine AL.nil ?_
     change AW _ _ _ _ _
     refine AW.ret ?_
     change ResA _ _ _ _ _
     refine res1 rfl (ResV.tmp rfl) rfl ?_
     simp_all [otherK]
    ·skip
     refine AL.n ?_
     refine AL.ro (rd_move rfl rfl) ?_
     refine AL.ro (rd_bin rfl rfl rfl (fun _ => rfl)) ?_
     refine AL.r (rd_pick_f rfl rfl rfl) ?_
     refine AL.nil ?_
     change AW _ _ _ _ _
     refine AW.cd rfl (fun h16 => ?_) (fun h16 => ?_)
     ·skip
      refine AW.seq ?_
      refine AW.region ?_
      refine AL.rm ?_
      refine AL.r (rd_arith_sub rfl rfl rfl (by first | exact IntWalk.i64_in _ (by omega) | rfl)) ?_
      refine AL.ra ?_
      refine AL.nil ?_
      change AW _ _ _ _ _
      refine AW.ret ?_
      change ResA _ _ _ _ _
      refine res1 rfl (ResV.tmp rfl) rfl ?_
      simp_all [otherK]
     ·skip
      refine AW.skip ?_
      change AW _ _ _ _ _
      refine AW.seq ?_
      refine AW.seq ?_
      refine AW.region ?_
      refine AL.rm ?_
      refine AL.r (rd_bin rfl rfl rfl (fun _ => rfl)) ?_
      refine AL.rm ?_
      refine AL.fk (d := 21) rfl (fun h21 => ?_) (fun h21 => ?_)
      ·skip
       refine AL.n ?_
       refine AL.rf ?_
       refine AL.rf ?_
       refine AL.r (rd_pick_t rfl rfl rfl) ?_
       refine AL.nil ?_
       change AW _ _ _ _ _
       refine AW.cond_t rfl ?_
       refine AW.seq ?_
       refine AW.region ?_
       refine AL.rm ?_
       refine AL.r (rd_arith_sub rfl rfl rfl (by first | exact IntWalk.i64_in _ (by omega) | rfl)) ?_
       refine AL.ra ?_
       refine AL.nil ?_
       change AW _ _ _ _ _
       refine AW.ret ?_
       change ResA _ _ _ _ _
       refine res1 rfl (ResV.tmp rfl) rfl ?_
       simp_all [otherK]
      ·skip
       refine AL.n ?_
       refine AL.ro (rd_move rfl rfl) ?_
       refine AL.ro (rd_bin rfl rfl rfl (fun _ => rfl)) ?_
       refine AL.r (rd_pick_f rfl rfl rfl) ?_
       refine AL.nil ?_
       change AW _ _ _ _ _
       refine AW.cd rfl (fun h24 => ?_) (fun h24 => ?_)
       ·skip
        refine AW.seq ?_
        refine AW.region ?_
        refine AL.rm ?_
        refine AL.r (rd_arith_sub rfl rfl rfl (by first | exact IntWalk.i64_in _ (by omega) | rfl)) ?_
        refine AL.ra ?_
        refine AL.nil ?_
        change AW _ _ _ _ _
        refine AW.ret ?_
        change ResA _ _ _ _ _
        refine res1 rfl (ResV.tmp rfl) rfl ?_
        simp_all [otherK]
       ·skip
        refine AW.skip ?_
        change AW _ _ _ _ _
        refine AW.seq ?_
        refine AW.seq ?_
        refine AW.region ?_
        refine AL.rm ?_
        refine AL.r (rd_bin rfl rfl rfl (fun _ => rfl)) ?_
        refine AL.rm ?_
        refine AL.fk (d := 29) rfl (fun h29 => ?_) (fun h29 => ?_)
        ·skip
         refine AL.n ?_
         refine AL.rf ?_
         refine AL.rf ?_
         refine AL.r (rd_pick_t rfl rfl rfl) ?_
         refine AL.nil ?_
         change AW _ _ _ _ _
         refine AW.cond_t rfl ?_
         refine AW.seq ?_
         refine AW.region ?_
         refine AL.rm ?_
         refine AL.r (rd_arith_sub rfl rfl rfl (by first | exact IntWalk.i64_in _ (by omega) | rfl)) ?_
         refine AL.ra ?_
         refine AL.nil ?_
         change AW _ _ _ _ _
         refine AW.ret ?_
         change ResA _ _ _ _ _
         refine res1 rfl (ResV.tmp rfl) rfl ?_
         simp_all [otherK]
        ·skip
         refine AL.n ?_
         refine AL.ro (rd_move rfl rfl) ?_
         refine AL.ro (rd_bin rfl rfl rfl (fun _ => rfl)) ?_
         refine AL.r (rd_pick_f rfl rfl rfl) ?_
         refine AL.nil ?_
         change AW _ _ _ _ _
         refine AW.cd rfl (fun h32 => ?_) (fun h32 => ?_)
         ·skip
          refine AW.seq ?_
          refine AW.region ?_
          refine AL.rm ?_
          refine AL.r (rd_arith_sub rfl rfl rfl (by first | exact IntWalk.i64_in _ (by omega) | rfl)) ?_
          refine AL.ra ?_
          refine AL.nil ?_
          change AW _ _ _ _ _
          refine AW.ret ?_
          change ResA _ _ _ _ _
          refine res1 rfl (ResV.tmp rfl) rfl ?_
          simp_all [otherK]
         ·skip
          refine AW.skip ?_
          change AW _ _ _ _ _
          refine AW.seq ?_
          refine AW.region ?_
          refine AL.rm ?_
          refine AL.ra ?_
          refine AL.nil ?_
          change AW _ _ _ _ _
          refine AW.ret ?_
          change ResA _ _ _ _ _
          refine res1 rfl (ResV.tmp rfl) rfl ?_
          simp_all [otherK]
theorem rlsame_c (a b : LensD) (h : a.Small) : AC Try.prog 54 [a.av, b.av] (fun r => r = .s (AB (decide (a = b)))) := by
  have h1 := h.cases
  change AC _ _ [.ag [AI a.kind, AI a.at_.scope, AS a.at_.group, AS a.at_.name, AS a.name, AS a.other, AI a.factor, AI a.field.at_.scope, AS a.field.at_.group, AS a.field.at_.name, AI a.field.kind, AS a.field.dflt, .sl (csS a.field.cases), AI a.field.worth, .sl (a.forth.map PairD.cs), .sl (a.back.map PairD.cs)], .ag [AI b.kind, AI b.at_.scope, AS b.at_.group, AS b.at_.name, AS b.name, AS b.other, AI b.factor, AI b.field.at_.scope, AS b.field.at_.group, AS b.field.at_.name, AI b.field.kind, AS b.field.dflt, .sl (csS b.field.cases), AI b.field.worth, .sl (b.forth.map PairD.cs), .sl (b.back.map PairD.cs)]] _
  refine AC.of' 57 2 Try.func54 rfl ?_
  change AW _ _ _ _ [TK.mk 0 .off, TK.mk 0 .off]
  refine AW.seq ?_
  refine AW.region ?_
  refine AL.op rfl (AOpB.op (op_box 0 rfl rfl rfl rfl rfl ?_))
  refine AL.n ?_
  refine AL.op rfl (AOpB.op (op_box 1 rfl rfl rfl rfl rfl ?_))
  refine AL.n ?_
  refine AL.ra ?_
  refine AL.nil ?_
  change AW _ _ _ _ _
  refine AW.seq ?_
  refine AW.region ?_
  refine AL.r (rd_faddr_bx rfl fo_50_0 rfl rfl ⟨_, _, rfl⟩) ?_
  refine AL.r (rd_load_bx rfl ag_3 rfl rfl rfl) ?_
  refine AL.r (rd_faddr_bx rfl fo_50_0 rfl rfl ⟨_, _, rfl⟩) ?_
  refine AL.r (rd_load_bx rfl ag_3 rfl rfl rfl) ?_
  refine AL.r (rd_bin rfl rfl rfl (fun _ => rfl)) ?_
  refine AL.rm ?_
  refine AL.fk (d := 10) rfl (fun h10 => ?_) (fun h10 => ?_)
  ·skip
   refine AL.n ?_
   refine AL.ro (rd_faddr_bx rfl fo_50_1 rfl rfl ⟨_, _, rfl⟩) ?_
   refine AL.ro (rd_loadN_bx rfl ag_44 rfl rfl (Nat.le_of_ble_eq_true rfl) rfl) ?_
   refine AL.ro (rd_faddr_bx rfl fo_50_1 rfl rfl ⟨_, _, rfl⟩) ?_
   refine AL.ro (rd_loadN_bx rfl ag_44 rfl rfl (Nat.le_of_ble_eq_true rfl) rfl) ?_
   refine AL.ro (rd_eq_Ref rfl rfl rfl) ?_
   refine AL.r (rd_pick_t rfl rfl rfl) ?_
   refine AL.rm ?_
   refine AL.fk (d := 17) rfl (fun h17 => ?_) (fun h17 => ?_)
   ·skip
    refine AL.n ?_
    refine AL.ro (rd_faddr_bx rfl fo_50_2 rfl rfl ⟨_, _, rfl⟩) ?_
    refine AL.ro (rd_load_bx rfl ag_9 rfl rfl rfl) ?_
    refine AL.ro (rd_faddr_bx rfl fo_50_2 rfl rfl ⟨_, _, rfl⟩) ?_
    refine AL.ro (rd_load_bx rfl ag_9 rfl rfl rfl) ?_
    refine AL.ro (rd_seq rfl rfl rfl) ?_
    refine AL.r (rd_pick_t rfl rfl rfl) ?_
    refine AL.rm ?_
    refine AL.fk (d := 24) rfl (fun h24 => ?_) (fun h24 => ?_)
    ·skip
     refine AL.n ?_
     refine AL.ro (rd_faddr_bx rfl fo_50_3 rfl rfl ⟨_, _, rfl⟩) ?_
     refine AL.ro (rd_load_bx rfl ag_9 rfl rfl rfl) ?_
     refine AL.ro (rd_faddr_bx rfl fo_50_3 rfl rfl ⟨_, _, rfl⟩) ?_
     refine AL.ro (rd_load_bx rfl ag_9 rfl rfl rfl) ?_
     refine AL.ro (rd_seq rfl rfl rfl) ?_
     refine AL.r (rd_pick_t rfl rfl rfl) ?_
     refine AL.rm ?_
     refine AL.fk (d := 31) rfl (fun h31 => ?_) (fun h31 => ?_)
     ·skip
      refine AL.n ?_
      refine AL.ro (rd_faddr_bx rfl fo_50_4 rfl rfl ⟨_, _, rfl⟩) ?_
      refine AL.ro (rd_load_bx rfl ag_2 rfl rfl rfl) ?_
      refine AL.ro (rd_faddr_bx rfl fo_50_4 rfl rfl ⟨_, _, rfl⟩) ?_
      refine AL.ro (rd_load_bx rfl ag_2 rfl rfl rfl) ?_
      refine AL.ro (rd_bin rfl rfl rfl (fun _ => rfl)) ?_
      refine AL.r (rd_pick_t rfl rfl rfl) ?_
      refine AL.rm ?_
      refine AL.fk (d := 38) rfl (fun h38 => ?_) (fun h38 => ?_)
      ·skip
       refine AL.n ?_
       refine AL.ro (rd_faddr_bx rfl fo_50_5 rfl rfl ⟨_, _, rfl⟩) ?_
       refine AL.ro (rd_loadN_bx rfl ag_47 rfl rfl (Nat.le_of_ble_eq_true rfl) rfl) ?_
       refine AL.ro (rd_faddr_bx rfl fo_50_5 rfl rfl ⟨_, _, rfl⟩) ?_
       refine AL.ro (rd_loadN_bx rfl ag_47 rfl rfl (Nat.le_of_ble_eq_true rfl) rfl) ?_
       refine AL.on rfl rfl rfl (AOpB.op (op_call (rsame_c a.field b.field (by omega)) rfl (by kernel_rfl) rfl (none) ?_))
       rintro r rfl
       refine AL.n ?_
       refine AL.r (rd_pick_t rfl rfl rfl) ?_
       refine AL.rm ?_
       refine AL.fk (d := 45) rfl (fun h45 => ?_) (fun h45 => ?_)
       ·skip
        refine AL.n ?_
        refine AL.ro (rd_faddr_bx rfl fo_50_6 rfl rfl ⟨_, _, rfl⟩) ?_
        refine AL.ro (rd_load_bx rfl ag_48 rfl rfl rfl) ?_
        refine AL.ro (rd_faddr_bx rfl fo_50_6 rfl rfl ⟨_, _, rfl⟩) ?_
        refine AL.ro (rd_load_bx rfl ag_48 rfl rfl rfl) ?_
        refine AL.on rfl rfl rfl (AOpB.op (op_call (rspairs_c a.forth b.forth) rfl (by kernel_rfl) rfl (none) ?_))
        rintro r rfl
        refine AL.n ?_
        refine AL.r (rd_pick_t rfl rfl rfl) ?_
        refine AL.rm ?_
        refine AL.fk (d := 52) rfl (fun h52 => ?_) (fun h52 => ?_)
        ·skip
         refine AL.n ?_
         refine AL.ro (rd_faddr_bx rfl fo_50_7 rfl rfl ⟨_, _, rfl⟩) ?_
         refine AL.ro (rd_load_bx rfl ag_48 rfl rfl rfl) ?_
         refine AL.ro (rd_faddr_bx rfl fo_50_7 rfl rfl ⟨_, _, rfl⟩) ?_
         refine AL.ro (rd_load_bx rfl ag_48 rfl rfl rfl) ?_
         refine AL.on rfl rfl rfl (AOpB.op (op_call (rspairs_c a.back b.back) rfl (by kernel_rfl) rfl (none) ?_))
         rintro r rfl
         refine AL.n ?_
         refine AL.r (rd_pick_t rfl rfl rfl) ?_
         refine AL.ra ?_
         refine AL.nil ?_
         change AW _ _ _ _ _
         refine AW.ret ?_
         change ResA _ _ _ _ _
         refine res1 rfl (ResV.tmp rfl) rfl ?_
         (refine congrArg (fun b => RS.s (AB b)) ?_; rw [Bool.eq_iff_iff]; simp_all [lensD_iff, refD_iff] <;> (intros; simp_all))
        ·skip
         refine AL.n ?_
         refine AL.rf ?_
         refine AL.rf ?_
         refine AL.rf ?_
         refine AL.rf ?_
         refine AL.rf ?_
         refine AL.r (rd_pick_f rfl rfl rfl) ?_
         refine AL.ra ?_
         refine AL.nil ?_
         change AW _ _ _ _ _
         refine AW.ret ?_
         change ResA _ _ _ _ _
         refine res1 rfl (ResV.tmp rfl) rfl ?_
         (refine congrArg (fun b => RS.s (AB b)) ?_; rw [Bool.eq_iff_iff]; simp_all [lensD_iff, refD_iff] <;> (intros; simp_all))
       ·skip
        refine AL.n ?_
        refine AL.rf ?_
        refine AL.rf ?_
        refine AL.rf ?_
        refine AL.rf ?_
        refine AL.rf ?_
        refine AL.r (rd_pick_f rfl rfl rfl) ?_
        refine AL.rm ?_
        refine AL.rf ?_
        refine AL.rf ?_
        refine AL.rf ?_
        refine AL.rf ?_
        refine AL.rf ?_
        refine AL.r (rd_pick_f rfl rfl rfl) ?_
        refine AL.ra ?_
        refine AL.nil ?_
        change AW _ _ _ _ _
        refine AW.ret ?_
        change ResA _ _ _ _ _
        refine res1 rfl (ResV.tmp rfl) rfl ?_
        (refine congrArg (fun b => RS.s (AB b)) ?_; rw [Bool.eq_iff_iff]; simp_all [lensD_iff, refD_iff] <;> (intros; simp_all))
      ·skip
       refine AL.n ?_
       refine AL.rf ?_
       refine AL.rf ?_
       refine AL.rf ?_
       refine AL.rf ?_
       refine AL.rf ?_
       refine AL.r (rd_pick_f rfl rfl rfl) ?_
       refine AL.rm ?_
       refine AL.rf ?_
       refine AL.rf ?_
       refine AL.rf ?_
       refine AL.rf ?_
       refine AL.rf ?_
       refine AL.r (rd_pick_f rfl rfl rfl) ?_
       refine AL.rm ?_
       refine AL.rf ?_
       refine AL.rf ?_
       refine AL.rf ?_
       refine AL.rf ?_
       refine AL.rf ?_
       refine AL.r (rd_pick_f rfl rfl rfl) ?_
       refine AL.ra ?_
       refine AL.nil ?_
       change AW _ _ _ _ _
       refine AW.ret ?_
       change ResA _ _ _ _ _
       refine res1 rfl (ResV.tmp rfl) rfl ?_
       (refine congrArg (fun b => RS.s (AB b)) ?_; rw [Bool.eq_iff_iff]; simp_all [lensD_iff, refD_iff] <;> (intros; simp_all))
     ·skip
      refine AL.n ?_
      refine AL.rf ?_
      refine AL.rf ?_
      refine AL.rf ?_
      refine AL.rf ?_
      refine AL.rf ?_
      refine AL.r (rd_pick_f rfl rfl rfl) ?_
      refine AL.rm ?_
      refine AL.rf ?_
      refine AL.rf ?_
      refine AL.rf ?_
      refine AL.rf ?_
      refine AL.rf ?_
      refine AL.r (rd_pick_f rfl rfl rfl) ?_
      refine AL.rm ?_
      refine AL.rf ?_
      refine AL.rf ?_
      refine AL.rf ?_
      refine AL.rf ?_
      refine AL.rf ?_
      refine AL.r (rd_pick_f rfl rfl rfl) ?_
      refine AL.rm ?_
      refine AL.rf ?_
      refine AL.rf ?_
      refine AL.rf ?_
      refine AL.rf ?_
      refine AL.rf ?_
      refine AL.r (rd_pick_f rfl rfl rfl) ?_
      refine AL.ra ?_
      refine AL.nil ?_
      change AW _ _ _ _ _
      refine AW.ret ?_
      change ResA _ _ _ _ _
      refine res1 rfl (ResV.tmp rfl) rfl ?_
      (refine congrArg (fun b => RS.s (AB b)) ?_; rw [Bool.eq_iff_iff]; simp_all [lensD_iff, refD_iff] <;> (intros; simp_all))
    ·skip
     refine AL.n ?_
     refine AL.rf ?_
     refine AL.rf ?_
     refine AL.rf ?_
     refine AL.rf ?_
     refine AL.rf ?_
     refine AL.r (rd_pick_f rfl rfl rfl) ?_
     refine AL.rm ?_
     refine AL.rf ?_
     refine AL.rf ?_
     refine AL.rf ?_
     refine AL.rf ?_
     refine AL.rf ?_
     refine AL.r (rd_pick_f rfl rfl rfl) ?_
     refine AL.rm ?_
     refine AL.rf ?_
     refine AL.rf ?_
     refine AL.rf ?_
     refine AL.rf ?_
     refine AL.rf ?_
     refine AL.r (rd_pick_f rfl rfl rfl) ?_
     refine AL.rm ?_
     refine AL.rf ?_
     refine AL.rf ?_
     refine AL.rf ?_
     refine AL.rf ?_
     refine AL.rf ?_
     refine AL.r (rd_pick_f rfl rfl rfl) ?_
     refine AL.rm ?_
     refine AL.rf ?_
     refine AL.rf ?_
     refine AL.rf ?_
     refine AL.rf ?_
     refine AL.rf ?_
     refine AL.r (rd_pick_f rfl rfl rfl) ?_
     refine AL.ra ?_
     refine AL.nil ?_
     change AW _ _ _ _ _
     refine AW.ret ?_
     change ResA _ _ _ _ _
     refine res1 rfl (ResV.tmp rfl) rfl ?_
     (refine congrArg (fun b => RS.s (AB b)) ?_; rw [Bool.eq_iff_iff]; simp_all [lensD_iff, refD_iff] <;> (intros; simp_all))
   ·skip
    refine AL.n ?_
    refine AL.rf ?_
    refine AL.rf ?_
    refine AL.rf ?_
    refine AL.rf ?_
    refine AL.rf ?_
    refine AL.r (rd_pick_f rfl rfl rfl) ?_
    refine AL.rm ?_
    refine AL.rf ?_
    refine AL.rf ?_
    refine AL.rf ?_
    refine AL.rf ?_
    refine AL.rf ?_
    refine AL.r (rd_pick_f rfl rfl rfl) ?_
    refine AL.rm ?_
    refine AL.rf ?_
    refine AL.rf ?_
    refine AL.rf ?_
    refine AL.rf ?_
    refine AL.rf ?_
    refine AL.r (rd_pick_f rfl rfl rfl) ?_
    refine AL.rm ?_
    refine AL.rf ?_
    refine AL.rf ?_
    refine AL.rf ?_
    refine AL.rf ?_
    refine AL.rf ?_
    refine AL.r (rd_pick_f rfl rfl rfl) ?_
    refine AL.rm ?_
    refine AL.rf ?_
    refine AL.rf ?_
    refine AL.rf ?_
    refine AL.rf ?_
    refine AL.rf ?_
    refine AL.r (rd_pick_f rfl rfl rfl) ?_
    refine AL.rm ?_
    refine AL.rf ?_
    refine AL.rf ?_
    refine AL.rf ?_
    refine AL.rf ?_
    refine AL.rf ?_
    refine AL.r (rd_pick_f rfl rfl rfl) ?_
    refine AL.ra ?_
    refine AL.nil ?_
    change AW _ _ _ _ _
    refine AW.ret ?_
    change ResA _ _ _ _ _
    refine res1 rfl (ResV.tmp rfl) rfl ?_
    (refine congrArg (fun b => RS.s (AB b)) ?_; rw [Bool.eq_iff_iff]; simp_all [lensD_iff, refD_iff] <;> (intros; simp_all))
  ·skip
   refine AL.n ?_
   refine AL.rf ?_
   refine AL.rf ?_
   refine AL.rf ?_
   refine AL.rf ?_
   refine AL.rf ?_
   refine AL.r (rd_pick_f rfl rfl rfl) ?_
   refine AL.rm ?_
   refine AL.rf ?_
   refine AL.rf ?_
   refine AL.rf ?_
   refine AL.rf ?_
   refine AL.rf ?_
   refine AL.r (rd_pick_f rfl rfl rfl) ?_
   refine AL.rm ?_
   refine AL.rf ?_
   refine AL.rf ?_
   refine AL.rf ?_
   refine AL.rf ?_
   refine AL.rf ?_
   refine AL.r (rd_pick_f rfl rfl rfl) ?_
   refine AL.rm ?_
   refine AL.rf ?_
   refine AL.rf ?_
   refine AL.rf ?_
   refine AL.rf ?_
   refine AL.rf ?_
   refine AL.r (rd_pick_f rfl rfl rfl) ?_
   refine AL.rm ?_
   refine AL.rf ?_
   refine AL.rf ?_
   refine AL.rf ?_
   refine AL.rf ?_
   refine AL.rf ?_
   refine AL.r (rd_pick_f rfl rfl rfl) ?_
   refine AL.rm ?_
   refine AL.rf ?_
   refine AL.rf ?_
   refine AL.rf ?_
   refine AL.rf ?_
   refine AL.rf ?_
   refine AL.r (rd_pick_f rfl rfl rfl) ?_
   refine AL.rm ?_
   refine AL.rf ?_
   refine AL.rf ?_
   refine AL.rf ?_
   refine AL.rf ?_
   refine AL.rf ?_
   refine AL.r (rd_pick_f rfl rfl rfl) ?_
   refine AL.ra ?_
   refine AL.nil ?_
   change AW _ _ _ _ _
   refine AW.ret ?_
   change ResA _ _ _ _ _
   refine res1 rfl (ResV.tmp rfl) rfl ?_
   (refine congrArg (fun b => RS.s (AB b)) ?_; rw [Bool.eq_iff_iff]; simp_all [lensD_iff, refD_iff] <;> (intros; simp_all))
theorem rheavyp_c (l : List PairD) : AC Try.prog 56 [.sl (l.map PairD.cs)] (fun r => r = .s (AB (hpB l))) := by
  refine AC.of' 28 0 Try.func56 rfl ?_
  change AW _ _ _ _ []
  refine AW.seq ?_
  refine AW.region ?_
  refine AL.ra ?_
  refine AL.nil ?_
  change AW _ _ _ _ _
  refine AW.seq ?_
  refine AW.seq ?_
  refine AW.region ?_
  refine AL.rm ?_
  refine AL.r (rd_len_sl rfl el_48 rfl) ?_
  refine AL.r (rd_bin rfl rfl rfl (fun _ => rfl)) ?_
  refine AL.nil ?_
  change AW _ _ _ _ _
  refine AW.cd rfl (fun h6 => ?_) (fun h6 => ?_)
  ·skip
   refine AW.seq ?_
   refine AW.region ?_
   refine AL.ra ?_
   refine AL.nil ?_
   change AW _ _ _ _ _
   refine AW.ret ?_
   change ResA _ _ _ _ _
   refine res1 rfl (ResV.tmp rfl) rfl ?_
   (refine congrArg (fun b => RS.s (AB b)) ?_; unfold hpB; rw [decide_eq_true (by omega)]; rfl)
  ·skip
   refine AW.skip ?_
   change AW _ _ _ _ _
   refine AW.seq ?_
   refine AW.seq ?_
   refine AW.region ?_
   refine AL.ra ?_
   refine AL.nil ?_
   change AW _ _ _ _ _
   refine AW.block ?_
   refine AW.loopM (ι := Nat) [2, 7, 8, 9, 10, 11, 12, 13, 14, 15, 16, 17, 18, 19, 20, 21, 22, 23, 24, 25, 26, 27, 28] (fun k => [(3, AI (k : Int))]) [] (fun k => []) (fun k => k ≤ l.length ∧ ∀ i (hi : i < l.length), i < k → (decide (200 < l[i].from_.length) || decide (200 < l[i].to.length)) = false) (fun k => l.length - k) 0 (⟨by omega, fun i _ hi => absurd hi (by omega)⟩) (by simp only [anys, upds, offs, List.set_cons_zero, List.set_cons_succ]; repeat (first | exact Wk.nil | refine Wk.same ?_ | refine Wk.any ?_)) (by simp only [anys, upds, offs, List.set_cons_zero, List.set_cons_succ]; repeat (first | exact Sk.nil _ | refine Sk.same _ ?_ | refine Sk.scr _ (by decide) ?_)) ?_
   rintro k gs hJ
   refine AW.norm (by simp only [anys, upds, offs, List.set_cons_zero, List.set_cons_succ]; rfl) (by (try simp only [anys, upds, offs, List.set_cons_zero, List.set_cons_succ]); (try rfl)) ?_
   obtain ⟨hk, hok⟩ := hJ
   refine AW.seq ?_
   refine AW.seq ?_
   refine AW.region ?_
   refine AL.rm ?_
   refine AL.rm ?_
   refine AL.r (rd_len_sl rfl el_48 rfl) ?_
   refine AL.r (rd_bin rfl rfl rfl (fun _ => rfl)) ?_
   refine AL.nil ?_
   change AW _ _ _ _ _
   refine AW.cd rfl (fun h10 => ?_) (fun h10 => ?_)
   ·skip
    refine AW.skip ?_
    change AW _ _ _ _ _
    refine AW.seq ?_
    refine AW.block ?_
    refine AW.seq ?_
    refine AW.region ?_
    refine AL.rm ?_
    refine AL.rm ?_
    refine AL.r (rd_iaddr_sl rfl el_48 rfl rfl rfl (get_mapA (by omega)) rfl) ?_
    refine AL.r (rd_faddr_ep rfl fo_152_0 rfl) ?_
    refine AL.r (rd_load_ep rfl ag_9 rfl rfl) ?_
    refine AL.r (rd_len_str rfl str_9 rfl) ?_
    refine AL.r (rd_bin rfl rfl rfl (fun _ => rfl)) ?_
    refine AL.rm ?_
    refine AL.fk (d := 20) rfl (fun h20 => ?_) (fun h20 => ?_)
    ·skip
     refine AL.n ?_
     refine AL.rf ?_
     refine AL.rf ?_
     refine AL.rf ?_
     refine AL.rf ?_
     refine AL.rf ?_
     refine AL.rf ?_
     refine AL.rf ?_
     refine AL.r (rd_pick_t rfl rfl rfl) ?_
     refine AL.nil ?_
     change AW _ _ _ _ _
     refine AW.cond_t rfl ?_
     refine AW.seq ?_
     refine AW.region ?_
     refine AL.ra ?_
     refine AL.nil ?_
     change AW _ _ _ _ _
     refine AW.ret ?_
     change ResA _ _ _ _ _
     refine res1 rfl (ResV.tmp rfl) rfl ?_
     (refine congrArg (fun b => RS.s (AB b)) ?_; unfold hpB; rw [List.any_eq_true.2 ⟨l[k], List.getElem_mem (by omega), by simp_all <;> omega⟩, Bool.or_true])
    ·skip
     refine AL.n ?_
     refine AL.ro (rd_move rfl rfl) ?_
     refine AL.ro (rd_move rfl rfl) ?_
     refine AL.ro (rd_iaddr_sl rfl el_48 rfl rfl rfl (get_mapA (by omega)) rfl) ?_
     refine AL.ro (rd_faddr_ep rfl fo_152_1 rfl) ?_
     refine AL.ro (rd_load_ep rfl ag_9 rfl rfl) ?_
     refine AL.ro (rd_len_str rfl str_9 rfl) ?_
     refine AL.ro (rd_bin rfl rfl rfl (fun _ => rfl)) ?_
     refine AL.r (rd_pick_f rfl rfl rfl) ?_
     refine AL.nil ?_
     change AW _ _ _ _ _
     refine AW.cd rfl (fun h28 => ?_) (fun h28 => ?_)
     ·skip
      refine AW.seq ?_
      refine AW.region ?_
      refine AL.ra ?_
      refine AL.nil ?_
      change AW _ _ _ _ _
      refine AW.ret ?_
      change ResA _ _ _ _ _
      refine res1 rfl (ResV.tmp rfl) rfl ?_
      (refine congrArg (fun b => RS.s (AB b)) ?_; unfold hpB; rw [List.any_eq_true.2 ⟨l[k], List.getElem_mem (by omega), by simp_all <;> omega⟩, Bool.or_true])
     ·skip
      refine AW.skip ?_
      change AW _ _ _ _ _
      refine AW.region ?_
      refine AL.rm ?_
      refine AL.r (rd_arith_add rfl rfl rfl (by first | exact IntWalk.i64_in _ (by omega) | rfl)) ?_
      refine AL.ra ?_
      refine AL.nil ?_
      refine ⟨k + 1, ?_, by first | omega | (simp only []; omega), ?_, ?_⟩
      ·exact ⟨by omega, all_nextL (p := fun (y : PairD) => (decide (200 < y.from_.length) || decide (200 < y.to.length)) = false) (by omega) hok (by simp_all <;> omega)⟩
      ·simp only [anys, upds, offs, List.set_cons_zero, List.set_cons_succ]; repeat (first | exact Wk.nil | refine Wk.same ?_ | refine Wk.any ?_)
      ·simp only [anys, upds, offs, List.set_cons_zero, List.set_cons_succ]; repeat (first | exact Sk.nil _ | refine Sk.same _ ?_ | refine Sk.scr _ (by decide) ?_)
   ·skip
    refine AW.exit ?_
    change AW _ _ _ _ _
    refine AW.seq ?_
    refine AW.region ?_
    refine AL.ra ?_
    refine AL.nil ?_
    change AW _ _ _ _ _
    refine AW.ret ?_
    change ResA _ _ _ _ _
    refine res1 rfl (ResV.tmp rfl) rfl ?_
    (refine congrArg (fun b => RS.s (AB b)) ?_; unfold hpB; rw [decide_eq_false (by omega), any_f (fun i hi => hok i hi (by omega))]; rfl)
theorem rheavyl_c (x : LensD) : AC Try.prog 22 [x.av] (fun r => r = .s (AB (heavyL x))) := by
  change AC _ _ [.ag [AI x.kind, AI x.at_.scope, AS x.at_.group, AS x.at_.name, AS x.name, AS x.other, AI x.factor, AI x.field.at_.scope, AS x.field.at_.group, AS x.field.at_.name, AI x.field.kind, AS x.field.dflt, .sl (csS x.field.cases), AI x.field.worth, .sl (x.forth.map PairD.cs), .sl (x.back.map PairD.cs)]] _
  refine AC.of' 41 1 Try.func22 rfl ?_
  change AW _ _ _ _ [TK.mk 0 .off]
  refine AW.seq ?_
  refine AW.region ?_
  refine AL.op rfl (AOpB.op (op_box 0 rfl rfl rfl rfl rfl ?_))
  refine AL.n ?_
  refine AL.ra ?_
  refine AL.nil ?_
  change AW _ _ _ _ _
  refine AW.seq ?_
  refine AW.region ?_
  refine AL.r (rd_faddr_bx rfl fo_50_1 rfl rfl ⟨_, _, rfl⟩) ?_
  refine AL.r (rd_faddr_bx rfl fo_44_1 rfl rfl ⟨_, _, rfl⟩) ?_
  refine AL.r (rd_load_bx rfl ag_9 rfl rfl rfl) ?_
  refine AL.r (rd_len_str rfl str_9 rfl) ?_
  refine AL.r (rd_bin rfl rfl rfl (fun _ => rfl)) ?_
  refine AL.rm ?_
  refine AL.fk (d := 8) rfl (fun h8 => ?_) (fun h8 => ?_)
  ·skip
   refine AL.n ?_
   refine AL.rf ?_
   refine AL.rf ?_
   refine AL.rf ?_
   refine AL.rf ?_
   refine AL.rf ?_
   refine AL.r (rd_pick_t rfl rfl rfl) ?_
   refine AL.rm ?_
   refine AL.rf ?_
   refine AL.rf ?_
   refine AL.rf ?_
   refine AL.rf ?_
   refine AL.r (rd_pick_t rfl rfl rfl) ?_
   refine AL.rm ?_
   refine AL.rf ?_
   refine AL.rf ?_
   refine AL.rf ?_
   refine AL.rf ?_
   refine AL.r (rd_pick_t rfl rfl rfl) ?_
   refine AL.rm ?_
   refine AL.rf ?_
   refine AL.rf ?_
   refine AL.rf ?_
   refine AL.r (rd_pick_t rfl rfl rfl) ?_
   refine AL.rm ?_
   refine AL.rf ?_
   refine AL.rf ?_
   refine AL.rf ?_
   refine AL.r (rd_pick_t rfl rfl rfl) ?_
   refine AL.rm ?_
   refine AL.rf ?_
   refine AL.rf ?_
   refine AL.rf ?_
   refine AL.r (rd_pick_t rfl rfl rfl) ?_
   refine AL.ra ?_
   refine AL.nil ?_
   change AW _ _ _ _ _
   refine AW.ret ?_
   change ResA _ _ _ _ _
   refine res1 rfl (ResV.tmp rfl) rfl ?_
   (refine congrArg (fun b => RS.s (AB b)) ?_; simp_all [heavyL] <;> first | omega | grind)
  ·skip
   refine AL.n ?_
   refine AL.ro (rd_faddr_bx rfl fo_50_1 rfl rfl ⟨_, _, rfl⟩) ?_
   refine AL.ro (rd_faddr_bx rfl fo_44_2 rfl rfl ⟨_, _, rfl⟩) ?_
   refine AL.ro (rd_load_bx rfl ag_9 rfl rfl rfl) ?_
   refine AL.ro (rd_len_str rfl str_9 rfl) ?_
   refine AL.ro (rd_bin rfl rfl rfl (fun _ => rfl)) ?_
   refine AL.r (rd_pick_f rfl rfl rfl) ?_
   refine AL.rm ?_
   refine AL.fk (d := 15) rfl (fun h15 => ?_) (fun h15 => ?_)
   ·skip
    refine AL.n ?_
    refine AL.rf ?_
    refine AL.rf ?_
    refine AL.rf ?_
    refine AL.rf ?_
    refine AL.r (rd_pick_t rfl rfl rfl) ?_
    refine AL.rm ?_
    refine AL.rf ?_
    refine AL.rf ?_
    refine AL.rf ?_
    refine AL.rf ?_
    refine AL.r (rd_pick_t rfl rfl rfl) ?_
    refine AL.rm ?_
    refine AL.rf ?_
    refine AL.rf ?_
    refine AL.rf ?_
    refine AL.r (rd_pick_t rfl rfl rfl) ?_
    refine AL.rm ?_
    refine AL.rf ?_
    refine AL.rf ?_
    refine AL.rf ?_
    refine AL.r (rd_pick_t rfl rfl rfl) ?_
    refine AL.rm ?_
    refine AL.rf ?_
    refine AL.rf ?_
    refine AL.rf ?_
    refine AL.r (rd_pick_t rfl rfl rfl) ?_
    refine AL.ra ?_
    refine AL.nil ?_
    change AW _ _ _ _ _
    refine AW.ret ?_
    change ResA _ _ _ _ _
    refine res1 rfl (ResV.tmp rfl) rfl ?_
    (refine congrArg (fun b => RS.s (AB b)) ?_; simp_all [heavyL] <;> first | omega | grind)
   ·skip
    refine AL.n ?_
    refine AL.ro (rd_faddr_bx rfl fo_50_2 rfl rfl ⟨_, _, rfl⟩) ?_
    refine AL.ro (rd_load_bx rfl ag_9 rfl rfl rfl) ?_
    refine AL.ro (rd_len_str rfl str_9 rfl) ?_
    refine AL.ro (rd_bin rfl rfl rfl (fun _ => rfl)) ?_
    refine AL.r (rd_pick_f rfl rfl rfl) ?_
    refine AL.rm ?_
    refine AL.fk (d := 21) rfl (fun h21 => ?_) (fun h21 => ?_)
    ·skip
     refine AL.n ?_
     refine AL.rf ?_
     refine AL.rf ?_
     refine AL.rf ?_
     refine AL.rf ?_
     refine AL.r (rd_pick_t rfl rfl rfl) ?_
     refine AL.rm ?_
     refine AL.rf ?_
     refine AL.rf ?_
     refine AL.rf ?_
     refine AL.r (rd_pick_t rfl rfl rfl) ?_
     refine AL.rm ?_
     refine AL.rf ?_
     refine AL.rf ?_
     refine AL.rf ?_
     refine AL.r (rd_pick_t rfl rfl rfl) ?_
     refine AL.rm ?_
     refine AL.rf ?_
     refine AL.rf ?_
     refine AL.rf ?_
     refine AL.r (rd_pick_t rfl rfl rfl) ?_
     refine AL.ra ?_
     refine AL.nil ?_
     change AW _ _ _ _ _
     refine AW.ret ?_
     change ResA _ _ _ _ _
     refine res1 rfl (ResV.tmp rfl) rfl ?_
     (refine congrArg (fun b => RS.s (AB b)) ?_; simp_all [heavyL] <;> first | omega | grind)
    ·skip
     refine AL.n ?_
     refine AL.ro (rd_faddr_bx rfl fo_50_3 rfl rfl ⟨_, _, rfl⟩) ?_
     refine AL.ro (rd_load_bx rfl ag_9 rfl rfl rfl) ?_
     refine AL.ro (rd_len_str rfl str_9 rfl) ?_
     refine AL.ro (rd_bin rfl rfl rfl (fun _ => rfl)) ?_
     refine AL.r (rd_pick_f rfl rfl rfl) ?_
     refine AL.rm ?_
     refine AL.fk (d := 27) rfl (fun h27 => ?_) (fun h27 => ?_)
     ·skip
      refine AL.n ?_
      refine AL.rf ?_
      refine AL.rf ?_
      refine AL.rf ?_
      refine AL.r (rd_pick_t rfl rfl rfl) ?_
      refine AL.rm ?_
      refine AL.rf ?_
      refine AL.rf ?_
      refine AL.rf ?_
      refine AL.r (rd_pick_t rfl rfl rfl) ?_
      refine AL.rm ?_
      refine AL.rf ?_
      refine AL.rf ?_
      refine AL.rf ?_
      refine AL.r (rd_pick_t rfl rfl rfl) ?_
      refine AL.ra ?_
      refine AL.nil ?_
      change AW _ _ _ _ _
      refine AW.ret ?_
      change ResA _ _ _ _ _
      refine res1 rfl (ResV.tmp rfl) rfl ?_
      (refine congrArg (fun b => RS.s (AB b)) ?_; simp_all [heavyL] <;> first | omega | grind)
     ·skip
      refine AL.n ?_
      refine AL.ro (rd_faddr_bx rfl fo_50_5 rfl rfl ⟨_, _, rfl⟩) ?_
      refine AL.ro (rd_loadN_bx rfl ag_47 rfl rfl (Nat.le_of_ble_eq_true rfl) rfl) ?_
      refine AL.on rfl rfl rfl (AOpB.op (op_call (rheavy_c x.field) rfl (by kernel_rfl) rfl (none) ?_))
      rintro r rfl
      refine AL.n ?_
      refine AL.r (rd_pick_f rfl rfl rfl) ?_
      refine AL.rm ?_
      refine AL.fk (d := 32) rfl (fun h32 => ?_) (fun h32 => ?_)
      ·skip
       refine AL.n ?_
       refine AL.rf ?_
       refine AL.rf ?_
       refine AL.rf ?_
       refine AL.r (rd_pick_t rfl rfl rfl) ?_
       refine AL.rm ?_
       refine AL.rf ?_
       refine AL.rf ?_
       refine AL.rf ?_
       refine AL.r (rd_pick_t rfl rfl rfl) ?_
       refine AL.ra ?_
       refine AL.nil ?_
       change AW _ _ _ _ _
       refine AW.ret ?_
       change ResA _ _ _ _ _
       refine res1 rfl (ResV.tmp rfl) rfl ?_
       (refine congrArg (fun b => RS.s (AB b)) ?_; simp_all [heavyL] <;> first | omega | grind)
      ·skip
       refine AL.n ?_
       refine AL.ro (rd_faddr_bx rfl fo_50_6 rfl rfl ⟨_, _, rfl⟩) ?_
       refine AL.ro (rd_load_bx rfl ag_48 rfl rfl rfl) ?_
       refine AL.on rfl rfl rfl (AOpB.op (op_call (rheavyp_c x.forth) rfl (by kernel_rfl) rfl (none) ?_))
       rintro r rfl
       refine AL.n ?_
       refine AL.r (rd_pick_f rfl rfl rfl) ?_
       refine AL.rm ?_
       refine AL.fk (d := 37) rfl (fun h37 => ?_) (fun h37 => ?_)
       ·skip
        refine AL.n ?_
        refine AL.rf ?_
        refine AL.rf ?_
        refine AL.rf ?_
        refine AL.r (rd_pick_t rfl rfl rfl) ?_
        refine AL.ra ?_
        refine AL.nil ?_
        change AW _ _ _ _ _
        refine AW.ret ?_
        change ResA _ _ _ _ _
        refine res1 rfl (ResV.tmp rfl) rfl ?_
        (refine congrArg (fun b => RS.s (AB b)) ?_; simp_all [heavyL] <;> first | omega | grind)
       ·skip
        refine AL.n ?_
        refine AL.ro (rd_faddr_bx rfl fo_50_7 rfl rfl ⟨_, _, rfl⟩) ?_
        refine AL.ro (rd_load_bx rfl ag_48 rfl rfl rfl) ?_
        refine AL.on rfl rfl rfl (AOpB.op (op_call (rheavyp_c x.back) rfl (by kernel_rfl) rfl (none) ?_))
        rintro r rfl
        refine AL.n ?_
        refine AL.r (rd_pick_f rfl rfl rfl) ?_
        refine AL.ra ?_
        refine AL.nil ?_
        change AW _ _ _ _ _
        refine AW.ret ?_
        change ResA _ _ _ _ _
        refine res1 rfl (ResV.tmp rfl) rfl ?_
        (refine congrArg (fun b => RS.s (AB b)) ?_; simp_all [heavyL] <;> first | omega | grind)
end Go.Proofs.Ytdgcbhihmnhnaaa
