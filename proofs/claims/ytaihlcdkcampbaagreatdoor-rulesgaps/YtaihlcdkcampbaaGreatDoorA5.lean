/- Lemmas of the claim RulesGaps, printed by a program of the claimant and by hand. No statement of the seat is proved here. -/
import Derived.Test.YtaihlcdkcampbaaGreatDoorA4
set_option linter.unusedVariables false
set_option linter.unusedSimpArgs false
set_option linter.unusedSectionVars false
set_option maxHeartbeats 4000000
set_option maxRecDepth 100000
namespace Go.Proofs.YtaihlcdkcampbaaGreatDoor
open Go.Proofs
def rules_parser_sum_S (N : Nat) (sR239 : rules_parser → Option (rules_bad ⊕ (rules_parser × Expr))) (x0 : rules_parser) : Option (rules_bad ⊕ (rules_parser × Expr)) :=
 ((rules_parser_joinedBy N x0 (fun y => sR239 y) (mput (mput ([] : List ((List UInt8) × Int)) ([43] : List UInt8) 8) ([45] : List UInt8) 9)).bind fun r41 => sk r41 (fun b53 => some (.inl b53)) (fun r44 => some (.inr (r44.1, r44.2))))
theorem cS_rules_parser_sum (N : Nat) (sR239 : rules_parser → Option (rules_bad ⊕ (rules_parser × Expr))) (hsR239 : Self239 sR239) {wb w0 : World} {Fb F0 : Mem} {Lf : Own} (hG : Glob F0) (bp0 : Nat) (x0 : rules_parser) (a0_0 : Option Addr) (n0_0 : Nat) (hb0_0 : LC x0.l_.length n0_0) (hs0_0 : SlA trules_token F0 a0_0 x0.l_) (hs0 : HS wb Fb w0 F0 ((sb bp0 (krules_parser x0 a0_0 n0_0) 100) :: Lf)) (r : (rules_bad ⊕ (rules_parser × Expr))) (h : rules_parser_sum_S N sR239 x0 = some r) :
  Calls Tryz.prog 233 ([(pt bp0 0)] : List Value).toArray w0 (BRetP wb Fb F0 Lf r (fun b => (.iface 158 (.agg (krules_bad b)))) fun a F' v L' => ∃ (aq0_0 : Option Addr) (nq0_0 : Nat) (aq1_2 : Option Addr) (nq1_2 : Nat), v = (.agg (kExpr a.2 aq1_2 nq1_2)) ∧ L' = (sb bp0 (krules_parser a.1 aq0_0 nq0_0) 100) :: Lf ∧ LC a.1.l_.length nq0_0 ∧ SlA trules_token F' aq0_0 a.1.l_ ∧ LC a.2.Kids.length nq1_2 ∧ SlA tExpr F' aq1_2 a.2.Kids) := by
 refine Go 9 Tryz.func233 ?_
 refine Sq (Rg [0] ?_)
 refine Al' 33 #[(vi 0), (vi 0), (.slice none ([] : List Expr).length 0)] hs0 (fun b21 w22 hs23 => ?_)
 refine Nss (Rg [0, 1, 2, 3, 4, 5, 6, 7, 8] ?_)
 refine Vs 3 ?_
 refine RWP.makeMap (t := 198) (K := tStr) (T := tInt) (dst := (some 6)) (ty := 198) (g := none) (by kernel_rfl) rfl hs23 (fun b25 e26 w27 (hs28 : HS wb Fb w27 F0 (e26 :: (sb b21 #[(vi 0), (vi 0), (.slice none ([] : List Expr).length 0)] 33) :: (sb bp0 (krules_parser x0 a0_0 n0_0) 100) :: Lf)) hr29 => ?_)
 refine RWP.mapIns kl9 (ty := 0) (g := none) (mt := 198) (k := 9) (vt := 3) (m := (.tmp 6)) (x := (.const (.string ⟨([43] : List UInt8).toArray⟩))) (y := (.const (vi 8))) (b := b25) (kx := ([43] : List UInt8)) (u := 8) (kv := (.string ⟨(([43] : List UInt8)).toArray⟩)) (v := (vi 8)) (K := tStr) (T := tInt) (by kernel_rfl) rfl rfl rfl rfl ⟨_, rfl, rfl⟩ ⟨_, rfl, rfl⟩ (by kernel_rfl) hs28 (q := 0) rfl hr29 (fun e30 w31 (hs32 : HS wb Fb w31 F0 (e30 :: (sb b21 #[(vi 0), (vi 0), (.slice none ([] : List Expr).length 0)] 33) :: (sb bp0 (krules_parser x0 a0_0 n0_0) 100) :: Lf)) hr33 => ?_)
 refine RWP.mapIns kl9 (ty := 0) (g := none) (mt := 198) (k := 9) (vt := 3) (m := (.tmp 6)) (x := (.const (.string ⟨([45] : List UInt8).toArray⟩))) (y := (.const (vi 9))) (b := b25) (kx := ([45] : List UInt8)) (u := 9) (kv := (.string ⟨(([45] : List UInt8)).toArray⟩)) (v := (vi 9)) (K := tStr) (T := tInt) (by kernel_rfl) rfl rfl rfl rfl ⟨_, rfl, rfl⟩ ⟨_, rfl, rfl⟩ (by kernel_rfl) hs32 (q := 0) rfl hr33 (fun e34 w35 (hs36 : HS wb Fb w35 F0 (e34 :: (sb b21 #[(vi 0), (vi 0), (.slice none ([] : List Expr).length 0)] 33) :: (sb bp0 (krules_parser x0 a0_0 n0_0) 100) :: Lf)) hr37 => ?_)
 refine Vs 1 ?_
 obtain ⟨F1, hs38, le39, hm40⟩ : ∃ Fq, HS wb Fb w35 Fq ((sb b21 #[(vi 0), (vi 0), (.slice none ([] : List Expr).length 0)] 33) :: (sb bp0 (krules_parser x0 a0_0 n0_0) 100) :: Lf) ∧ Mem.le F0 Fq ∧ MpA tStr tInt Fq (some b25) (mput (mput ([] : List ((List UInt8) × Int)) ([43] : List UInt8) 8) ([45] : List UInt8) 9) := HS.freezeMap hs36 (i := 0) rfl hr37
 obtain ⟨r41, hr42, h43⟩ := bind_some h
 refine CP co_rules_parser_joinedBy (c_rules_parser_joinedBy N (hG.mono le39) bp0 (x0) a0_0 n0_0 hb0_0 (SlA.mono hs0_0 le39) 239 [(pt bp0 0)] ([] : List Value) (fun y => sR239 y) co_rules_parser_term (fun {_ _ _ _ _} hGe y ay_0 ny_0 hby_0 hsy_0 hs r h => hsR239 hGe bp0 y ay_0 ny_0 hby_0 hsy_0 hs r h) ((mput (mput ([] : List ((List UInt8) × Int)) ([43] : List UInt8) 8) ([45] : List UInt8) 9)) (some b25) hm40 hs38.pk1 _ hr42) ?_ ?_
 ·rintro r44 _ F2 w46 _ rfl hs47 le48 ⟨ar44_0_0, nr44_0_0, ar44_1_2, nr44_1_2, rfl, rfl, hbr44_0_0, hsr44_0_0, hbr44_1_2, hsr44_1_2⟩
  have h50 := sk_r h43
  refine St1 (kExpr r44.2 ar44_1_2 nr44_1_2) hs47 (fun w51 hs52 => ?_)
  refine Nt ?_
  refine Rt ?_
  obtain rfl := some_inj h50
  exact ⟨rfl, (.agg (kExpr r44.2 ar44_1_2 nr44_1_2)), res_of (l := [.cell 2 33]) (by kernel_rfl) (vs := [(.agg (kExpr r44.2 ar44_1_2 nr44_1_2))]) ⟨b21, 0, rfl, run_loadVar' (t := 33) (g := true) (s := 3) (by kernel_rfl) hs52.at1 rfl (by decide), trivial⟩, .inl ⟨_, F2, _, _, rfl, rfl, hs52.dr1, (le39.trans le48), ⟨ar44_0_0, nr44_0_0, ar44_1_2, nr44_1_2, rfl, rfl, hbr44_0_0, hsr44_0_0, hbr44_1_2, hsr44_1_2⟩⟩⟩
 ·rintro b53 F3 w54 rfl hs55 le56
  have h57 := sk_l h43
  refine thenQ_pan ?_
  obtain rfl := some_inj h57
  exact RePi hs55.dr0 (le39.trans le56)
end Go.Proofs.YtaihlcdkcampbaaGreatDoor
namespace Go.Proofs.YtaihlcdkcampbaaGreatDoor
open Go.Proofs
def rules_parser_term_S (N : Nat) (sR243 : rules_parser → Option (rules_bad ⊕ (rules_parser × Expr))) (x0 : rules_parser) : Option (rules_bad ⊕ (rules_parser × Expr)) :=
 ((rules_parser_joinedBy N x0 (fun y => sR243 y) (mput ([] : List ((List UInt8) × Int)) ([42] : List UInt8) 10)).bind fun r37 => sk r37 (fun b49 => some (.inl b49)) (fun r40 => some (.inr (r40.1, r40.2))))
theorem cS_rules_parser_term (N : Nat) (sR243 : rules_parser → Option (rules_bad ⊕ (rules_parser × Expr))) (hsR243 : Self243 sR243) {wb w0 : World} {Fb F0 : Mem} {Lf : Own} (hG : Glob F0) (bp0 : Nat) (x0 : rules_parser) (a0_0 : Option Addr) (n0_0 : Nat) (hb0_0 : LC x0.l_.length n0_0) (hs0_0 : SlA trules_token F0 a0_0 x0.l_) (hs0 : HS wb Fb w0 F0 ((sb bp0 (krules_parser x0 a0_0 n0_0) 100) :: Lf)) (r : (rules_bad ⊕ (rules_parser × Expr))) (h : rules_parser_term_S N sR243 x0 = some r) :
  Calls Tryz.prog 239 ([(pt bp0 0)] : List Value).toArray w0 (BRetP wb Fb F0 Lf r (fun b => (.iface 158 (.agg (krules_bad b)))) fun a F' v L' => ∃ (aq0_0 : Option Addr) (nq0_0 : Nat) (aq1_2 : Option Addr) (nq1_2 : Nat), v = (.agg (kExpr a.2 aq1_2 nq1_2)) ∧ L' = (sb bp0 (krules_parser a.1 aq0_0 nq0_0) 100) :: Lf ∧ LC a.1.l_.length nq0_0 ∧ SlA trules_token F' aq0_0 a.1.l_ ∧ LC a.2.Kids.length nq1_2 ∧ SlA tExpr F' aq1_2 a.2.Kids) := by
 refine Go 9 Tryz.func239 ?_
 refine Sq (Rg [0] ?_)
 refine Al' 33 #[(vi 0), (vi 0), (.slice none ([] : List Expr).length 0)] hs0 (fun b21 w22 hs23 => ?_)
 refine Nss (Rg [0, 1, 2, 3, 4, 5, 6, 7] ?_)
 refine Vs 3 ?_
 refine RWP.makeMap (t := 198) (K := tStr) (T := tInt) (dst := (some 6)) (ty := 198) (g := none) (by kernel_rfl) rfl hs23 (fun b25 e26 w27 (hs28 : HS wb Fb w27 F0 (e26 :: (sb b21 #[(vi 0), (vi 0), (.slice none ([] : List Expr).length 0)] 33) :: (sb bp0 (krules_parser x0 a0_0 n0_0) 100) :: Lf)) hr29 => ?_)
 refine RWP.mapIns kl9 (ty := 0) (g := none) (mt := 198) (k := 9) (vt := 3) (m := (.tmp 6)) (x := (.const (.string ⟨([42] : List UInt8).toArray⟩))) (y := (.const (vi 10))) (b := b25) (kx := ([42] : List UInt8)) (u := 10) (kv := (.string ⟨(([42] : List UInt8)).toArray⟩)) (v := (vi 10)) (K := tStr) (T := tInt) (by kernel_rfl) rfl rfl rfl rfl ⟨_, rfl, rfl⟩ ⟨_, rfl, rfl⟩ (by kernel_rfl) hs28 (q := 0) rfl hr29 (fun e30 w31 (hs32 : HS wb Fb w31 F0 (e30 :: (sb b21 #[(vi 0), (vi 0), (.slice none ([] : List Expr).length 0)] 33) :: (sb bp0 (krules_parser x0 a0_0 n0_0) 100) :: Lf)) hr33 => ?_)
 refine Vs 1 ?_
 obtain ⟨F1, hs34, le35, hm36⟩ : ∃ Fq, HS wb Fb w31 Fq ((sb b21 #[(vi 0), (vi 0), (.slice none ([] : List Expr).length 0)] 33) :: (sb bp0 (krules_parser x0 a0_0 n0_0) 100) :: Lf) ∧ Mem.le F0 Fq ∧ MpA tStr tInt Fq (some b25) (mput ([] : List ((List UInt8) × Int)) ([42] : List UInt8) 10) := HS.freezeMap hs32 (i := 0) rfl hr33
 obtain ⟨r37, hr38, h39⟩ := bind_some h
 refine CP co_rules_parser_joinedBy (c_rules_parser_joinedBy N (hG.mono le35) bp0 (x0) a0_0 n0_0 hb0_0 (SlA.mono hs0_0 le35) 243 [(pt bp0 0)] ([] : List Value) (fun y => sR243 y) co_rules_parser_item (fun {_ _ _ _ _} hGe y ay_0 ny_0 hby_0 hsy_0 hs r h => hsR243 hGe bp0 y ay_0 ny_0 hby_0 hsy_0 hs r h) ((mput ([] : List ((List UInt8) × Int)) ([42] : List UInt8) 10)) (some b25) hm36 hs34.pk1 _ hr38) ?_ ?_
 ·rintro r40 _ F2 w42 _ rfl hs43 le44 ⟨ar40_0_0, nr40_0_0, ar40_1_2, nr40_1_2, rfl, rfl, hbr40_0_0, hsr40_0_0, hbr40_1_2, hsr40_1_2⟩
  have h46 := sk_r h39
  refine St1 (kExpr r40.2 ar40_1_2 nr40_1_2) hs43 (fun w47 hs48 => ?_)
  refine Nt ?_
  refine Rt ?_
  obtain rfl := some_inj h46
  exact ⟨rfl, (.agg (kExpr r40.2 ar40_1_2 nr40_1_2)), res_of (l := [.cell 2 33]) (by kernel_rfl) (vs := [(.agg (kExpr r40.2 ar40_1_2 nr40_1_2))]) ⟨b21, 0, rfl, run_loadVar' (t := 33) (g := true) (s := 3) (by kernel_rfl) hs48.at1 rfl (by decide), trivial⟩, .inl ⟨_, F2, _, _, rfl, rfl, hs48.dr1, (le35.trans le44), ⟨ar40_0_0, nr40_0_0, ar40_1_2, nr40_1_2, rfl, rfl, hbr40_0_0, hsr40_0_0, hbr40_1_2, hsr40_1_2⟩⟩⟩
 ·rintro b49 F3 w50 rfl hs51 le52
  have h53 := sk_l h39
  refine thenQ_pan ?_
  obtain rfl := some_inj h53
  exact RePi hs51.dr0 (le35.trans le52)
end Go.Proofs.YtaihlcdkcampbaaGreatDoor
namespace Go.Proofs.YtaihlcdkcampbaaGreatDoor
open Go.Proofs
def rules_parser_fail (N : Nat) (x0 : rules_parser) (x1 : Int) (x2 : Int) : Option (rules_bad ⊕ Unit) :=
 some (.inl ({ e_ := x1, at_ := x2 } : rules_bad))
theorem co_rules_parser_fail : CallOk Tryz.prog 87 := fun _ _ => by kernel_rfl
theorem c_rules_parser_fail (N : Nat) {wb w0 : World} {Fb F0 : Mem} {Lf : Own} (bp0 : Nat) (x0 : rules_parser) (a0_0 : Option Addr) (n0_0 : Nat) (hb0_0 : LC x0.l_.length n0_0) (hs0_0 : SlA trules_token F0 a0_0 x0.l_) (x1 : Int) (x2 : Int) (hs0 : HS wb Fb w0 F0 ((sb bp0 (krules_parser x0 a0_0 n0_0) 100) :: Lf)) (r : (rules_bad ⊕ Unit)) (h : rules_parser_fail N x0 x1 x2 = some r) :
  Calls Tryz.prog 87 ([(pt bp0 0), (vi x1), (vi x2)] : List Value).toArray w0 (BRetP wb Fb F0 Lf r (fun b => (.iface 158 (.agg (krules_bad b)))) fun a F' v L' => v = (.tuple #[]) ∧ L' = (sb bp0 (krules_parser x0 a0_0 n0_0) 100) :: Lf) := by
 refine Go 10 Tryz.func87 ?_
 refine Rg [0, 1, 2, 3, 4] ?_
 refine Vs 3 ?_
 refine V 9 20 (run_mkIface' (t := 158) (x := (.tmp 8)) (v := (.agg #[(vi x1), (vi x2)])) rfl (by kernel_rfl)) ?_
 refine RWP.panics (dst := none) (ty := 0) (g := none) (by kernel_rfl) rfl (run_panic (x := (.tmp 9)) (t := 158) (v := (.agg #[(vi x1), (vi x2)])) rfl) rfl ?_
 obtain rfl := some_inj h
 exact RePi hs0.dr0 (Mem.le.refl _)
end Go.Proofs.YtaihlcdkcampbaaGreatDoor
namespace Go.Proofs.YtaihlcdkcampbaaGreatDoor
open Go.Proofs
def rules_parser_expect (N : Nat) (x0 : rules_parser) (x1 : (List UInt8)) : Option (rules_bad ⊕ rules_parser) :=
 ((rules_parser_accept N x0 x1).bind fun r21 => (bif (!r21.2) then ((idx r21.1.l_ 0).bind fun x31 => ((rules_parser_fail N r21.1 60 x31.at_).bind fun r45 => sk r45 (fun b50 => some (.inl b50)) (fun r48 => none))) else some (.inr r21.1)))
theorem co_rules_parser_expect : CallOk Tryz.prog 135 := fun _ _ => by kernel_rfl
theorem c_rules_parser_expect (N : Nat) {wb w0 : World} {Fb F0 : Mem} {Lf : Own} (bp0 : Nat) (x0 : rules_parser) (a0_0 : Option Addr) (n0_0 : Nat) (hb0_0 : LC x0.l_.length n0_0) (hs0_0 : SlA trules_token F0 a0_0 x0.l_) (x1 : (List UInt8)) (hs0 : HS wb Fb w0 F0 ((sb bp0 (krules_parser x0 a0_0 n0_0) 100) :: Lf)) (r : (rules_bad ⊕ rules_parser)) (h : rules_parser_expect N x0 x1 = some r) :
  Calls Tryz.prog 135 ([(pt bp0 0), (.string ⟨(x1).toArray⟩)] : List Value).toArray w0 (BRetP wb Fb F0 Lf r (fun b => (.iface 158 (.agg (krules_bad b)))) fun a F' v L' => ∃ (aq0_0 : Option Addr) (nq0_0 : Nat), v = (.tuple #[]) ∧ L' = (sb bp0 (krules_parser a aq0_0 nq0_0) 100) :: Lf ∧ LC a.l_.length nq0_0 ∧ SlA trules_token F' aq0_0 a.l_) := by
 refine Go 17 Tryz.func135 ?_
 refine Sq (Rg [0, 1, 2, 3] ?_)
 refine Vs 2 ?_
 obtain ⟨r21, hr22, h23⟩ := bind_some h
 refine CB co_rules_parser_accept (c_rules_parser_accept N bp0 (x0) a0_0 n0_0 hb0_0 hs0_0 (x1) hs0 _ hr22) ?_
 rintro _ F1 w24 _ hs25 le26 ⟨ar21_0_0, nr21_0_0, rfl, rfl, hbr21_0_0, hsr21_0_0⟩
 refine Vs 1 ?_
 refine Nt ?_
 refine Cd h23 (fun hb28 h29 => ?_) (fun hb28 h30 => ?_)
 ·refine Rg [0, 1, 2, 3, 4, 5, 6, 7, 8] ?_
  refine Vs 4 ?_
  refine Ld hs25.at0 ?_
  obtain ⟨x31, hx32, h34⟩ := bind_some h29
  obtain ⟨hi33, hx32'⟩ := idx_spec hx32
  obtain ⟨b35, o36, C37, E38, fz39, rfl, hF41, hE42⟩ := SlA.open hsr21_0_0 hx32'
  have hc44 := hE42 _ _ hx32'
  refine Ix hi33 ?_
  refine Vs 1 ?_
  refine Lx 1 (hs25.pers _ _ hF41) hc44 ?_
  obtain ⟨r45, hr46, h47⟩ := bind_some h34
  refine CP co_rules_parser_fail (c_rules_parser_fail N bp0 (r21.1) (some ⟨b35, o36, none⟩) nr21_0_0 hbr21_0_0 hsr21_0_0 (60) (x31.at_) hs25 _ hr46) ?_ ?_
  ·rintro _ _ _ _ _ rfl _ _ _; cases hr46
  ·rintro b50 F3 w51 rfl hs52 le53
   have h54 := sk_l h47
   obtain rfl := some_inj h54
   exact RePi hs52 (le26.trans le53)
 ·refine Sc ?_
  obtain rfl := some_inj h30
  exact ReP [] hs25 le26 ⟨ar21_0_0, nr21_0_0, rfl, rfl, hbr21_0_0, hsr21_0_0⟩
end Go.Proofs.YtaihlcdkcampbaaGreatDoor
namespace Go.Proofs.YtaihlcdkcampbaaGreatDoor
open Go.Proofs
def slices_Index_string_string_L0 (N : Nat) (x0 : (List (List UInt8))) (x1 : (List UInt8)) : Int → Option (Flow Int Int) := fun s24 =>
 (bif (decide (s24 < (x0.length : Int))) then ((idx x0 s24).bind fun x47 => (bif (x1 == x47) then some (.ret s24) else some (.next (W64 (s24 + 1))))) else some (.done s24))
def slices_Index_string_string (N : Nat) (x0 : (List (List UInt8))) (x1 : (List UInt8)) : Option Int :=
 ((iter (slices_Index_string_string_L0 N x0 x1) N 0).bind fun o => o.k (fun r => some r) (fun s33 => some (-1)))
theorem co_slices_Index_string_string : CallOk Tryz.prog 247 := fun _ _ => by kernel_rfl
theorem c_slices_Index_string_string (N : Nat) (w0 : World) (F0 : Mem) (hF : ∀ b o, F0 b = some o → w0.heap[b]? = some o) (x0 : (List (List UInt8))) (a0_0 : Option Addr) (n0_0 : Nat) (hb0_0 : LC x0.length n0_0) (hs0_0 : SlA tStr F0 a0_0 x0) (x1 : (List UInt8)) (r : Int) (h : slices_Index_string_string N x0 x1 = some r) :
  Calls Tryz.prog 247 ([(.slice a0_0 x0.length n0_0), (.string ⟨(x1).toArray⟩)] : List Value).toArray w0 (FRet w0 F0 fun F' v => v = (vi r)) := by
 have hs0 := HS.start hF
 refine Go 19 Tryz.func247 ?_
 refine Sq (Rg [0] ?_)
 refine Vs 1 ?_
 refine Nss ?_
 refine Sq (Rg [0, 1, 2] ?_)
 refine Vs 3 ?_
 refine Nt ?_
 obtain ⟨o21, ho22, h23⟩ := bind_some h
 refine CWP.cut (fun f w => ∃ (s33 : Int) (F2 : Mem), o21 = .done s33 ∧ HS w0 F0 w F2 [] ∧ Mem.le F0 F2 ∧ FI f [] []) ?_ ?_
 ·refine Bk ?_
  refine CWP.loop (by kernel_rfl) (fun m f w => ∃ (s24 : Int) (F1 : Mem), iter (slices_Index_string_string_L0 N x0 x1) m s24 = some o21 ∧ HS w0 F0 w F1 [] ∧ Mem.le F0 F1 ∧ FI f [] [(0, (.slice a0_0 x0.length n0_0)), (1, (.string ⟨(x1).toArray⟩)), (7, (vi (x0.length : Int))), (8, (vi s24))]) N ⟨0, F0, ho22, hs0, (Mem.le.refl _), fI⟩ ?_
  rintro m38 f w25 ⟨s24, F1, hit39, hs26, le27, ⟨_, rfl⟩⟩
  obtain ⟨m40, fl41, rfl, hb42, hnx43⟩ := iter_step hit39
  refine Sq (Rg [0] ?_)
  refine Vs 1 ?_
  refine Nss ?_
  refine Cd hb42 (fun hb44 h45 => ?_) (fun hb44 h46 => ?_)
  ·refine Sc ?_
   refine thenQ_nrm ?_
   refine Sq ?_
   refine Bk ?_
   refine Sq (Rg [0, 1] ?_)
   refine Vs 2 ?_
   refine Nss (Rg [0, 1, 2, 3, 4, 5] ?_)
   refine Vs 3 ?_
   obtain ⟨x47, hx48, h50⟩ := bind_some h45
   obtain ⟨hi49, hx48'⟩ := idx_spec hx48
   obtain ⟨b51, o52, C53, E54, fz55, rfl, hF57, hE58⟩ := SlA.open (SlA.mono hs0_0 le27) hx48'
   have hc60 := hE58 _ _ hx48'
   refine Ix hi49 ?_
   refine Lx 0 (hs26.pers _ _ hF57) hc60 ?_
   refine Vs 1 ?_
   refine Nt ?_
   refine Cd h50 (fun hb61 h62 => ?_) (fun hb61 h63 => ?_)
   ·refine Sq (Rg [0, 1] ?_)
    refine Vs 2 ?_
    refine Nt ?_
    refine Rt ?_
    refine blockQ_ret ?_
    refine thenQ_ret ?_
    refine thenQ_ret ?_
    refine blockQ_ret ?_
    have hret := iter_ret h62 hnx43
    subst hret
    refine .inr ?_
    refine thenQ_ret ?_
    obtain rfl := some_inj h23
    exact Re [(vi s24)] hs26 rfl
   ·refine Sc ?_
    refine blockQ_nrm ?_
    refine thenQ_nrm ?_
    refine Rg [0, 1] ?_
    refine Vs 2 ?_
    refine RWP.nil ?_
    have hn64 := iter_next h63 hnx43
    exact ⟨m40, Nat.lt_succ_self _, (W64 (s24 + 1)), F1, hn64, hs26, le27, fI⟩
  ·refine Ex ?_
   refine thenQ_ex ?_
   refine thenQ_ex ?_
   refine blockQ_hit rfl ?_
   have ho65 := iter_done h46 hnx43
   exact .inl ⟨rfl, s24, F1, ho65, hs26, le27, fI⟩
 ·rintro f w34 ⟨s33, F2, rfl, hs35, le36, ⟨_, rfl⟩⟩
  have h66 := k_done h23
  refine thenQ_nrm ?_
  refine Sq (Rg [0] ?_)
  refine Vs 1 ?_
  refine Nt ?_
  refine Rt ?_
  obtain rfl := some_inj h66
  exact Re [(vi (-1))] hs35 rfl
end Go.Proofs.YtaihlcdkcampbaaGreatDoor
namespace Go.Proofs.YtaihlcdkcampbaaGreatDoor
open Go.Proofs
def rules_parser_enter (N : Nat) (x0 : rules_parser) : Option (rules_bad ⊕ rules_parser) :=
 ((idx x0.l_ 0).bind fun x21 => (((rules_parser_peek N x0 ([40] : List UInt8)).bind fun r45 => (bif r45 then some (x0.open_ == 32) else some false)).bind fun j38 => (bif j38 then ((rules_parser_fail N x0 2 x21.at_).bind fun r58 => sk r58 (fun b63 => some (.inl b63)) (fun r61 => none)) else ((rules_parser_expect N x0 ([40] : List UInt8)).bind fun r69 => sk r69 (fun b81 => some (.inl b81)) (fun r72 => some (.inr ({ l_ := r72.l_, open_ := (W64 (r72.open_ + 1)) } : rules_parser)))))))
theorem co_rules_parser_enter : CallOk Tryz.prog 249 := fun _ _ => by kernel_rfl
theorem c_rules_parser_enter (N : Nat) {wb w0 : World} {Fb F0 : Mem} {Lf : Own} (bp0 : Nat) (x0 : rules_parser) (a0_0 : Option Addr) (n0_0 : Nat) (hb0_0 : LC x0.l_.length n0_0) (hs0_0 : SlA trules_token F0 a0_0 x0.l_) (hs0 : HS wb Fb w0 F0 ((sb bp0 (krules_parser x0 a0_0 n0_0) 100) :: Lf)) (r : (rules_bad ⊕ rules_parser)) (h : rules_parser_enter N x0 = some r) :
  Calls Tryz.prog 249 ([(pt bp0 0)] : List Value).toArray w0 (BRetP wb Fb F0 Lf r (fun b => (.iface 158 (.agg (krules_bad b)))) fun a F' v L' => ∃ (aq0_0 : Option Addr) (nq0_0 : Nat), v = (.tuple #[]) ∧ L' = (sb bp0 (krules_parser a aq0_0 nq0_0) 100) :: Lf ∧ LC a.l_.length nq0_0 ∧ SlA trules_token F' aq0_0 a.l_) := by
 refine Go 31 Tryz.func249 ?_
 refine Sq ?_
 refine Sq (Rg [0, 1, 2, 3, 4, 5, 6, 7] ?_)
 refine Vs 3 ?_
 refine Ld hs0.at0 ?_
 obtain ⟨x21, hx22, h24⟩ := bind_some h
 obtain ⟨hi23, hx22'⟩ := idx_spec hx22
 obtain ⟨b25, o26, C27, E28, fz29, rfl, hF31, hE32⟩ := SlA.open hs0_0 hx22'
 have hc34 := hE32 _ _ hx22'
 refine Ix hi23 ?_
 refine Vs 1 ?_
 refine Lx 1 (hs0.pers _ _ hF31) hc34 ?_
 refine Vs 1 ?_
 refine Nss (Rg [0, 1, 2, 3, 4, 5, 6, 7, 8] ?_)
 obtain ⟨j38, hj43, h44⟩ := bind_some h24
 refine RWP.cut (fun f w => ∃ (F1 : Mem), HS wb Fb w F1 ((sb bp0 (krules_parser x0 (some ⟨b25, o26, none⟩) n0_0) 100) :: Lf) ∧ Mem.le F0 F1 ∧ FI f [] [(0, (pt bp0 0)), (2, (vi x21.at_)), (18, (.bool j38))]) ?_ ?_
 ·refine Vs 1 ?_
  obtain ⟨r45, hr46, h47⟩ := bind_some hj43
  refine CB co_rules_parser_peek (c_rules_parser_peek N bp0 (x0) (some ⟨b25, o26, none⟩) n0_0 hb0_0 hs0_0 (([40] : List UInt8)) hs0 _ hr46) ?_
  rintro _ F2 w48 _ hs49 le50 ⟨rfl, rfl⟩
  refine Vs 1 ?_
  refine Sp h47 (fun hb52 h53 => ?_) (fun hb52 h54 => ?_)
  ·refine Vgs hb52 3 ?_
   refine Lg hb52 hs49.at0 ?_
   refine Vgs hb52 1 ?_
   refine Pk1 hb52 ?_
   obtain rfl := some_inj h53
   exact RWP.nil ⟨rfl, F2, hs49, le50, fI⟩
  ·refine Ss hb52 5 ?_
   refine Pk0 hb52 ?_
   obtain rfl := some_inj h54
   exact RWP.nil ⟨rfl, F2, hs49, le50, fI⟩
 ·rintro f w35 ⟨F1, hs36, le37, ⟨_, rfl⟩⟩
  refine thenQ_nrm ?_
  refine Cd h44 (fun hb55 h56 => ?_) (fun hb55 h57 => ?_)
  ·refine Rg [0, 1, 2] ?_
   refine Vs 2 ?_
   obtain ⟨r58, hr59, h60⟩ := bind_some h56
   refine CP co_rules_parser_fail (c_rules_parser_fail N bp0 (x0) (some ⟨b25, o26, none⟩) n0_0 hb0_0 (SlA.mono hs0_0 le37) (2) (x21.at_) hs36 _ hr59) ?_ ?_
   ·rintro _ _ _ _ _ rfl _ _ _; cases hr59
   ·rintro b63 F4 w64 rfl hs65 le66
    have h67 := sk_l h60
    refine thenQ_pan ?_
    obtain rfl := some_inj h67
    exact RePi hs65 (le37.trans le66)
  ·refine Sc ?_
   refine thenQ_nrm ?_
   refine Sq (Rg [0, 1] ?_)
   refine Vs 1 ?_
   obtain ⟨r69, hr70, h71⟩ := bind_some h57
   refine CP co_rules_parser_expect (c_rules_parser_expect N bp0 (x0) (some ⟨b25, o26, none⟩) n0_0 hb0_0 (SlA.mono hs0_0 le37) (([40] : List UInt8)) hs36 _ hr70) ?_ ?_
   ·rintro r72 _ F5 w74 _ rfl hs75 le76 ⟨ar72_0_0, nr72_0_0, rfl, rfl, hbr72_0_0, hsr72_0_0⟩
    have h78 := sk_r h71
    refine Nt ?_
    refine Rg [0, 1, 2, 3, 4, 5, 6, 7] ?_
    refine Vs 3 ?_
    refine Ld hs75.at0 ?_
    refine Vs 3 ?_
    refine St0 #[(.slice ar72_0_0 r72.l_.length nr72_0_0), (vi (W64 (r72.open_ + 1)))] hs75 (fun w79 hs80 => ?_)
    refine RWP.nil ?_
    obtain rfl := some_inj h78
    exact ReP [] hs80 (le37.trans le76) ⟨ar72_0_0, nr72_0_0, rfl, rfl, hbr72_0_0, hsr72_0_0⟩
   ·rintro b81 F6 w82 rfl hs83 le84
    have h85 := sk_l h71
    refine thenQ_pan ?_
    obtain rfl := some_inj h85
    exact RePi hs83 (le37.trans le84)
end Go.Proofs.YtaihlcdkcampbaaGreatDoor
namespace Go.Proofs.YtaihlcdkcampbaaGreatDoor
open Go.Proofs
def rules_parser_leave (N : Nat) (x0 : rules_parser) : Option (rules_bad ⊕ rules_parser) :=
 ((rules_parser_expect N x0 ([41] : List UInt8)).bind fun r21 => sk r21 (fun b33 => some (.inl b33)) (fun r24 => some (.inr ({ l_ := r24.l_, open_ := (W64 (r24.open_ - 1)) } : rules_parser))))
theorem co_rules_parser_leave : CallOk Tryz.prog 250 := fun _ _ => by kernel_rfl
theorem c_rules_parser_leave (N : Nat) {wb w0 : World} {Fb F0 : Mem} {Lf : Own} (bp0 : Nat) (x0 : rules_parser) (a0_0 : Option Addr) (n0_0 : Nat) (hb0_0 : LC x0.l_.length n0_0) (hs0_0 : SlA trules_token F0 a0_0 x0.l_) (hs0 : HS wb Fb w0 F0 ((sb bp0 (krules_parser x0 a0_0 n0_0) 100) :: Lf)) (r : (rules_bad ⊕ rules_parser)) (h : rules_parser_leave N x0 = some r) :
  Calls Tryz.prog 250 ([(pt bp0 0)] : List Value).toArray w0 (BRetP wb Fb F0 Lf r (fun b => (.iface 158 (.agg (krules_bad b)))) fun a F' v L' => ∃ (aq0_0 : Option Addr) (nq0_0 : Nat), v = (.tuple #[]) ∧ L' = (sb bp0 (krules_parser a aq0_0 nq0_0) 100) :: Lf ∧ LC a.l_.length nq0_0 ∧ SlA trules_token F' aq0_0 a.l_) := by
 refine Go 11 Tryz.func250 ?_
 refine Sq (Rg [0, 1] ?_)
 refine Vs 1 ?_
 obtain ⟨r21, hr22, h23⟩ := bind_some h
 refine CP co_rules_parser_expect (c_rules_parser_expect N bp0 (x0) a0_0 n0_0 hb0_0 hs0_0 (([41] : List UInt8)) hs0 _ hr22) ?_ ?_
 ·rintro r24 _ F1 w26 _ rfl hs27 le28 ⟨ar24_0_0, nr24_0_0, rfl, rfl, hbr24_0_0, hsr24_0_0⟩
  have h30 := sk_r h23
  refine Nt ?_
  refine Rg [0, 1, 2, 3, 4, 5, 6, 7] ?_
  refine Vs 3 ?_
  refine Ld hs27.at0 ?_
  refine Vs 3 ?_
  refine St0 #[(.slice ar24_0_0 r24.l_.length nr24_0_0), (vi (W64 (r24.open_ - 1)))] hs27 (fun w31 hs32 => ?_)
  refine RWP.nil ?_
  obtain rfl := some_inj h30
  exact ReP [] hs32 le28 ⟨ar24_0_0, nr24_0_0, rfl, rfl, hbr24_0_0, hsr24_0_0⟩
 ·rintro b33 F2 w34 rfl hs35 le36
  have h37 := sk_l h23
  refine thenQ_pan ?_
  obtain rfl := some_inj h37
  exact RePi hs35 le36
end Go.Proofs.YtaihlcdkcampbaaGreatDoor
namespace Go.Proofs.YtaihlcdkcampbaaGreatDoor
open Go.Proofs
def rules_parser_item_S (N : Nat) (sR145 : rules_parser → Option (rules_bad ⊕ (rules_parser × Expr))) (x0 : rules_parser) : Option (rules_bad ⊕ (rules_parser × Expr)) :=
 ((idx x0.l_ 0).bind fun x24 => (((rules_names N ).bind fun r56 => ((slices_Index_string_string N r56 x24.text_).bind fun r64 => some r64)).bind fun j48 => (bif (x24.kind_ == 1) then ((strconv_Atoi N x24.text_).bind fun r75 => (bif (r75.2 || ((decide ((x24.text_.length : Int) > 7)) || (decide (r75.1 > 1000000)))) then ((rules_parser_fail N x0 60 x24.at_).bind fun r97 => sk r97 (fun b102 => some (.inl b102)) (fun r100 => none)) else ((sub x0.l_ 1 (x0.l_.length : Int)).bind fun r108 => some (.inr (({ l_ := r108, open_ := x0.open_ } : rules_parser), ({ Op := 1, Value := r75.1, Kids := ([] : List Expr) } : Expr)))))) else (bif ((x24.kind_ == 2) && (decide (j48 ≥ 0))) then ((sub x0.l_ 1 (x0.l_.length : Int)).bind fun r133 => some (.inr (({ l_ := r133, open_ := x0.open_ } : rules_parser), ({ Op := 2, Value := j48, Kids := ([] : List Expr) } : Expr)))) else ((rules_parser_accept N x0 ([105, 102] : List UInt8)).bind fun r145 => (bif r145.2 then ((rules_parser_enter N r145.1).bind fun r155 => sk r155 (fun b291 => some (.inl b291)) (fun r158 => ((sR145 r158).bind fun r165 => sk r165 (fun b285 => some (.inl b285)) (fun r168 => ((rules_parser_expect N r168.1 ([44] : List UInt8)).bind fun r180 => sk r180 (fun b279 => some (.inl b279)) (fun r183 => ((sR145 r183).bind fun r190 => sk r190 (fun b273 => some (.inl b273)) (fun r193 => ((rules_parser_expect N r193.1 ([44] : List UInt8)).bind fun r206 => sk r206 (fun b267 => some (.inl b267)) (fun r209 => ((sR145 r209).bind fun r216 => sk r216 (fun b261 => some (.inl b261)) (fun r219 => ((rules_parser_leave N r219.1).bind fun r232 => sk r232 (fun b254 => some (.inl b254)) (fun r235 => some (.inr (r235, ({ Op := 11, Value := 0, Kids := [r168.2, r193.2, r219.2] } : Expr))))))))))))))))) else ((rules_parser_peek N r145.1 ([40] : List UInt8)).bind fun r297 => (bif r297 then ((rules_parser_enter N r145.1).bind fun r307 => sk r307 (fun b356 => some (.inl b356)) (fun r310 => ((sR145 r310).bind fun r317 => sk r317 (fun b350 => some (.inl b350)) (fun r320 => ((rules_parser_leave N r320.1).bind fun r332 => sk r332 (fun b344 => some (.inl b344)) (fun r335 => some (.inr (r335, r320.2)))))))) else ((rules_parser_fail N r145.1 60 x24.at_).bind fun r362 => sk r362 (fun b367 => some (.inl b367)) (fun r365 => none))))))))))
theorem cS_rules_parser_item (N : Nat) (sR145 : rules_parser → Option (rules_bad ⊕ (rules_parser × Expr))) (hsR145 : Self145 sR145) {wb w0 : World} {Fb F0 : Mem} {Lf : Own} (hG : Glob F0) (bp0 : Nat) (x0 : rules_parser) (a0_0 : Option Addr) (n0_0 : Nat) (hb0_0 : LC x0.l_.length n0_0) (hs0_0 : SlA trules_token F0 a0_0 x0.l_) (hs0 : HS wb Fb w0 F0 ((sb bp0 (krules_parser x0 a0_0 n0_0) 100) :: Lf)) (r : (rules_bad ⊕ (rules_parser × Expr))) (h : rules_parser_item_S N sR145 x0 = some r) :
  Calls Tryz.prog 243 ([(pt bp0 0)] : List Value).toArray w0 (BRetP wb Fb F0 Lf r (fun b => (.iface 158 (.agg (krules_bad b)))) fun a F' v L' => ∃ (aq0_0 : Option Addr) (nq0_0 : Nat) (aq1_2 : Option Addr) (nq1_2 : Nat), v = (.agg (kExpr a.2 aq1_2 nq1_2)) ∧ L' = (sb bp0 (krules_parser a.1 aq0_0 nq0_0) 100) :: Lf ∧ LC a.1.l_.length nq0_0 ∧ SlA trules_token F' aq0_0 a.1.l_ ∧ LC a.2.Kids.length nq1_2 ∧ SlA tExpr F' aq1_2 a.2.Kids) := by
 refine Go 112 Tryz.func243 ?_
 refine Sq (Rg [0] ?_)
 refine Al' 33 #[(vi 0), (vi 0), (.slice none ([] : List Expr).length 0)] hs0 (fun b21 w22 hs23 => ?_)
 refine Nss (Rg [0, 1, 2, 3, 4, 5, 6, 7] ?_)
 refine Vs 3 ?_
 refine Ld hs23.at1 ?_
 obtain ⟨x24, hx25, h27⟩ := bind_some h
 obtain ⟨hi26, hx25'⟩ := idx_spec hx25
 obtain ⟨b28, o29, C30, E31, fz32, rfl, hF34, hE35⟩ := SlA.open hs0_0 hx25'
 have hc37 := hE35 _ _ hx25'
 refine Ix hi26 ?_
 refine Lx 0 (hs23.pers _ _ hF34) hc37 ?_
 refine Al' 97 #[(vi 0), (vi 0), (.string ⟨(([] : List UInt8)).toArray⟩)] hs23 (fun b38 w39 hs40 => ?_)
 refine St0 (krules_token x24) hs40 (fun w41 hs42 => ?_)
 refine Nss ?_
 refine Sq ?_
 obtain ⟨j48, hj54, h55⟩ := bind_some h27
 refine RD 5 5 [(sb b38 (krules_token x24) 97), (sb b21 #[(vi 0), (vi 0), (.slice none ([] : List Expr).length 0)] 33), (sb bp0 (krules_parser x0 (some ⟨b28, o29, none⟩) n0_0) 100)] [] hs42 (fun f w => ∃ (F1 : Mem), HS wb Fb w F1 ((sb b38 (krules_token x24) 97) :: (sb b21 #[(vi 0), (vi 0), (.slice none ([] : List Expr).length 0)] 33) :: (sb bp0 (krules_parser x0 (some ⟨b28, o29, none⟩) n0_0) 100) :: Lf) ∧ Mem.le F0 F1 ∧ FI f [] [(0, (pt bp0 0)), (2, (pt b21 0)), (3, (pt b38 0)), (4, (vi j48))]) (fun wd43 hw44 => ?_) ?_
 ·refine Dv [1] ?_
  refine Dl 2 (fun _ hq => (hq.1.2 0 _ _ rfl)) ?_
  refine D1 0 ?_
  obtain ⟨r56, hr57, h58⟩ := bind_some hj54
  refine DCl co_rules_names hw44 (c_rules_names N wd43 F0 hw44.pers  _ hr57) ?_
  rintro _ F2 w60 hs61 le62 ⟨ar56_0_0, nr56_0_0, rfl, hbr56_0_0, hsr56_0_0⟩
  refine D1 3 ?_
  obtain ⟨r64, hr65, h66⟩ := bind_some h58
  refine DCl co_slices_Index_string_string hs61 (c_slices_Index_string_string N w60 F2 hs61.pers (r56) ar56_0_0 nr56_0_0 hbr56_0_0 hsr56_0_0 (x24.text_) _ hr65) ?_
  rintro _ F3 w68 hs69 le70 rfl
  refine Dv [4] ?_
  obtain rfl := some_inj h66
  exact DWP.done (by kernel_rfl) ⟨F3, hs69, (le62.trans le70), fI⟩
 ·rintro f w45 ⟨F1, hs46, le47, ⟨_, rfl⟩⟩
  refine thenQ_nrm ?_
  refine Bk ?_
  refine Sq (Rg [0, 1, 2, 3] ?_)
  refine Vs 1 ?_
  refine Ld hs46.at0 ?_
  refine Vs 2 ?_
  refine Nt ?_
  refine Cd h55 (fun hb72 h73 => ?_) (fun hb72 h74 => ?_)
  ·refine Sq (Rg [0, 1, 2, 3, 4, 5, 6, 7] ?_)
   refine Vs 1 ?_
   refine Ld hs46.at0 ?_
   obtain ⟨r75, hr76, h77⟩ := bind_some h73
   refine Cl' co_strconv_Atoi hs46 (c_strconv_Atoi N w45 F1 hs46.pers (hG.mono le47) (x24.text_) _ hr76) ?_
   rintro _ F4 w79 hs80 le81 ⟨vr75_1_0, rfl, her75_1_0⟩
   refine Vs 5 ?_
   refine Nss ?_
   refine Sq (Rg [0, 1, 2, 3, 4, 5, 6, 7, 8, 9, 10, 11] ?_)
   refine RWP.cut (fun f w => ∃ (F5 : Mem), HS wb Fb w F5 ((sb b38 (krules_token x24) 97) :: (sb b21 #[(vi 0), (vi 0), (.slice none ([] : List Expr).length 0)] 33) :: (sb bp0 (krules_parser x0 (some ⟨b28, o29, none⟩) n0_0) 100) :: Lf) ∧ Mem.le F4 F5 ∧ FI f [] [(0, (pt bp0 0)), (2, (pt b21 0)), (3, (pt b38 0)), (5, (vi r75.1)), (42, (.bool (r75.2 || ((decide ((x24.text_.length : Int) > 7)) || (decide (r75.1 > 1000000))))))]) ?_ ?_
   ·refine Vs 1 ?_
    refine V 32 4 (run_errneq (t := 134) (t' := 134) (x := (.tmp 31)) (c := .nilIface) her75_1_0 rfl rfl (by kernel_rfl)) ?_
    refine Vs 1 ?_
    refine RWP.split r75.2 (fun hb92 => ?_) (fun hb92 => ?_)
    ·refine Ss hb92 4 ?_
     refine Pk1 hb92 ?_
     refine Vs 1 ?_
     refine Ss (rfl : true = true) 2 ?_
     refine Pk1 (rfl : true = true) ?_
     exact RWP.nil ⟨rfl, F4, hs80, (Mem.le.refl _), (fJ ⟨rfl, rfl, rfl, rfl, (congrArg Value.bool (or_t hb92 (rfl))), trivial⟩)⟩
    ·refine Vgs hb92 1 ?_
     refine Lg hb92 hs80.at0 ?_
     refine Vgs hb92 2 ?_
     refine Pk0 hb92 ?_
     refine Vs 1 ?_
     refine RWP.split (decide ((x24.text_.length : Int) > 7)) (fun hb93 => ?_) (fun hb93 => ?_)
     ·refine Ss hb93 2 ?_
      refine Pk1 hb93 ?_
      exact RWP.nil ⟨rfl, F4, hs80, (Mem.le.refl _), (fJ ⟨rfl, rfl, rfl, rfl, (congrArg Value.bool (or_f hb92 (or_t hb93 (rfl)))), trivial⟩)⟩
     ·refine Vgs hb93 2 ?_
      refine Pk0 hb93 ?_
      exact RWP.nil ⟨rfl, F4, hs80, (Mem.le.refl _), (fJ ⟨rfl, rfl, rfl, rfl, (congrArg Value.bool (or_f hb92 (or_f hb93 (rfl)))), trivial⟩)⟩
   ·rintro f w83 ⟨F5, hs84, le85, ⟨_, rfl⟩⟩
    refine thenQ_nrm ?_
    refine Cd h77 (fun hb94 h95 => ?_) (fun hb94 h96 => ?_)
    ·refine Rg [0, 1, 2, 3] ?_
     refine Vs 2 ?_
     refine Ld hs84.at0 ?_
     obtain ⟨r97, hr98, h99⟩ := bind_some h95
     refine CP co_rules_parser_fail (c_rules_parser_fail N bp0 (x0) (some ⟨b28, o29, none⟩) n0_0 hb0_0 (SlA.mono hs0_0 ((le47.trans le81).trans le85)) (60) (x24.at_) hs84.pk1.pk1.pk2 _ hr98) ?_ ?_
     ·rintro _ _ _ _ _ rfl _ _ _; cases hr98
     ·rintro b102 F7 w103 rfl hs104 le105
      have h106 := sk_l h99
      refine thenQ_pan ?_
      refine blockQ_pan ?_
      refine thenQ_pan ?_
      obtain rfl := some_inj h106
      exact RePi hs104.dr0.dr0 (((le47.trans le81).trans le85).trans le105)
    ·refine Sc ?_
     refine thenQ_nrm ?_
     refine Sq (Rg [0, 1, 2, 3, 4, 5, 6, 7, 8] ?_)
     refine Vs 4 ?_
     refine Ld hs84.at2 ?_
     obtain ⟨r108, hr109, h110⟩ := bind_some h96
     obtain ⟨a111, n112, hb113, hs114, hrun115⟩ := part_val (P := Tryz.prog) (T := trules_token) (lo := (some (.const (vi 1)))) (hi := none) (mx := none) (t := 98) (E := 97) (by_ := 32) (c := n0_0) (a := (some ⟨b28, o29, none⟩)) (l := x0.l_) (r := r108) (il := 1) (ih := (x0.l_.length : Int)) (im := 0) (by kernel_rfl) (by kernel_rfl) hb0_0 (SlA.mono hs0_0 ((le47.trans le81).trans le85)) (fun h => by first | rfl | cases h) hr109
     refine V 52 98 (hrun115 (x := (.tmp 51)) rfl rfl rfl trivial) ?_
     refine Vs 2 ?_
     refine St2 #[(.slice a111 r108.length n112), (vi x0.open_)] hs84 (fun w116 hs117 => ?_)
     refine Nss (Rg [0, 1, 2] ?_)
     refine Vs 2 ?_
     refine St1 #[(vi 1), (vi r75.1), (.slice none ([] : List Expr).length 0)] hs117 (fun w118 hs119 => ?_)
     refine Nt ?_
     refine Rt ?_
     refine blockQ_ret ?_
     refine thenQ_ret ?_
     obtain rfl := some_inj h110
     exact ⟨rfl, (.agg #[(vi 1), (vi r75.1), (.slice none ([] : List Expr).length 0)]), res_of (l := [.cell 2 33]) (by kernel_rfl) (vs := [(.agg #[(vi 1), (vi r75.1), (.slice none ([] : List Expr).length 0)])]) ⟨b21, 0, rfl, run_loadVar' (t := 33) (g := true) (s := 3) (by kernel_rfl) hs119.at1 rfl (by decide), trivial⟩, .inl ⟨_, F5, _, _, rfl, rfl, hs119.dr0.dr0, ((le47.trans le81).trans le85), ⟨a111, n112, none, 0, rfl, rfl, hb113, hs114, LC.nil, (.inl rfl)⟩⟩⟩
  ·refine Sq (Rg [0, 1, 2, 3, 4, 5, 6, 7] ?_)
   refine RWP.cut (fun f w => ∃ (F8 : Mem), HS wb Fb w F8 ((sb b38 (krules_token x24) 97) :: (sb b21 #[(vi 0), (vi 0), (.slice none ([] : List Expr).length 0)] 33) :: (sb bp0 (krules_parser x0 (some ⟨b28, o29, none⟩) n0_0) 100) :: Lf) ∧ Mem.le F1 F8 ∧ FI f [] [(0, (pt bp0 0)), (2, (pt b21 0)), (3, (pt b38 0)), (4, (vi j48)), (57, (.bool ((x24.kind_ == 2) && (decide (j48 ≥ 0)))))]) ?_ ?_
   ·refine Vs 1 ?_
    refine Ld hs46.at0 ?_
    refine Vs 2 ?_
    refine RWP.split (x24.kind_ == 2) (fun hb129 => ?_) (fun hb129 => ?_)
    ·refine Vgs hb129 2 ?_
     refine Pk1 hb129 ?_
     refine Vs 1 ?_
     exact RWP.nil ⟨rfl, F1, hs46, (Mem.le.refl _), (fJ ⟨rfl, rfl, rfl, rfl, (congrArg Value.bool (and_t hb129 (rfl))), trivial⟩)⟩
    ·refine Ss hb129 2 ?_
     refine Pk0 hb129 ?_
     refine Vs 1 ?_
     exact RWP.nil ⟨rfl, F1, hs46, (Mem.le.refl _), (fJ ⟨rfl, rfl, rfl, rfl, (congrArg Value.bool (and_f hb129 (rfl))), trivial⟩)⟩
   ·rintro f w120 ⟨F8, hs121, le122, ⟨_, rfl⟩⟩
    refine thenQ_nrm ?_
    refine Cd h74 (fun hb130 h131 => ?_) (fun hb130 h132 => ?_)
    ·refine Sq (Rg [0, 1, 2, 3, 4, 5, 6, 7, 8] ?_)
     refine Vs 4 ?_
     refine Ld hs121.at2 ?_
     obtain ⟨r133, hr134, h135⟩ := bind_some h131
     obtain ⟨a136, n137, hb138, hs139, hrun140⟩ := part_val (P := Tryz.prog) (T := trules_token) (lo := (some (.const (vi 1)))) (hi := none) (mx := none) (t := 98) (E := 97) (by_ := 32) (c := n0_0) (a := (some ⟨b28, o29, none⟩)) (l := x0.l_) (r := r133) (il := 1) (ih := (x0.l_.length : Int)) (im := 0) (by kernel_rfl) (by kernel_rfl) hb0_0 (SlA.mono hs0_0 (le47.trans le122)) (fun h => by first | rfl | cases h) hr134
     refine V 70 98 (hrun140 (x := (.tmp 69)) rfl rfl rfl trivial) ?_
     refine Vs 2 ?_
     refine St2 #[(.slice a136 r133.length n137), (vi x0.open_)] hs121 (fun w141 hs142 => ?_)
     refine Nss (Rg [0, 1, 2] ?_)
     refine Vs 2 ?_
     refine St1 #[(vi 2), (vi j48), (.slice none ([] : List Expr).length 0)] hs142 (fun w143 hs144 => ?_)
     refine Nt ?_
     refine Rt ?_
     refine blockQ_ret ?_
     refine thenQ_ret ?_
     obtain rfl := some_inj h135
     exact ⟨rfl, (.agg #[(vi 2), (vi j48), (.slice none ([] : List Expr).length 0)]), res_of (l := [.cell 2 33]) (by kernel_rfl) (vs := [(.agg #[(vi 2), (vi j48), (.slice none ([] : List Expr).length 0)])]) ⟨b21, 0, rfl, run_loadVar' (t := 33) (g := true) (s := 3) (by kernel_rfl) hs144.at1 rfl (by decide), trivial⟩, .inl ⟨_, F8, _, _, rfl, rfl, hs144.dr0.dr0, (le47.trans le122), ⟨a136, n137, none, 0, rfl, rfl, hb138, hs139, LC.nil, (.inl rfl)⟩⟩⟩
    ·refine Sq (Rg [0, 1, 2] ?_)
     refine Vs 1 ?_
     obtain ⟨r145, hr146, h147⟩ := bind_some h132
     refine CB co_rules_parser_accept (c_rules_parser_accept N bp0 (x0) (some ⟨b28, o29, none⟩) n0_0 hb0_0 (SlA.mono hs0_0 (le47.trans le122)) (([105, 102] : List UInt8)) hs121.pk1.pk1.pk2 _ hr146) ?_
     rintro _ F9 w148 _ hs149 le150 ⟨ar145_0_0, nr145_0_0, rfl, rfl, hbr145_0_0, hsr145_0_0⟩
     refine Vs 1 ?_
     refine Nt ?_
     refine Cd h147 (fun hb152 h153 => ?_) (fun hb152 h154 => ?_)
     ·refine Sq (Rg [0, 1] ?_)
      refine Vs 1 ?_
      obtain ⟨r155, hr156, h157⟩ := bind_some h153
      refine CP co_rules_parser_enter (c_rules_parser_enter N bp0 (r145.1) ar145_0_0 nr145_0_0 hbr145_0_0 hsr145_0_0 hs149 _ hr156) ?_ ?_
      ·rintro r158 _ F10 w160 _ rfl hs161 le162 ⟨ar158_0_0, nr158_0_0, rfl, rfl, hbr158_0_0, hsr158_0_0⟩
       have h164 := sk_r h157
       refine Nss (Rg [0, 1, 2, 3] ?_)
       refine Vs 1 ?_
       obtain ⟨r165, hr166, h167⟩ := bind_some h164
       refine CP co_rules_parser_expr (hsR145 (hG.mono (((le47.trans le122).trans le150).trans le162)) bp0 (r158) ar158_0_0 nr158_0_0 hbr158_0_0 hsr158_0_0 hs161 _ hr166) ?_ ?_
       ·rintro r168 _ F11 w170 _ rfl hs171 le172 ⟨ar168_0_0, nr168_0_0, ar168_1_2, nr168_1_2, rfl, rfl, hbr168_0_0, hsr168_0_0, hbr168_1_2, hsr168_1_2⟩
        have h174 := sk_r h167
        refine Al' 33 #[(vi 0), (vi 0), (.slice none ([] : List Expr).length 0)] hs171 (fun b175 w176 hs177 => ?_)
        refine St0 (kExpr r168.2 ar168_1_2 nr168_1_2) hs177 (fun w178 hs179 => ?_)
        refine Nss (Rg [0, 1] ?_)
        refine Vs 1 ?_
        obtain ⟨r180, hr181, h182⟩ := bind_some h174
        refine CP co_rules_parser_expect (c_rules_parser_expect N bp0 (r168.1) ar168_0_0 nr168_0_0 hbr168_0_0 hsr168_0_0 (([44] : List UInt8)) hs179.pk3.pk3.pk2.pk3 _ hr181) ?_ ?_
        ·rintro r183 _ F12 w185 _ rfl hs186 le187 ⟨ar183_0_0, nr183_0_0, rfl, rfl, hbr183_0_0, hsr183_0_0⟩
         have h189 := sk_r h182
         refine Nss (Rg [0, 1, 2, 3] ?_)
         refine Vs 1 ?_
         obtain ⟨r190, hr191, h192⟩ := bind_some h189
         refine CP co_rules_parser_expr (hsR145 (hG.mono (((((le47.trans le122).trans le150).trans le162).trans le172).trans le187)) bp0 (r183) ar183_0_0 nr183_0_0 hbr183_0_0 hsr183_0_0 hs186 _ hr191) ?_ ?_
         ·rintro r193 _ F13 w195 _ rfl hs196 le197 ⟨ar193_0_0, nr193_0_0, ar193_1_2, nr193_1_2, rfl, rfl, hbr193_0_0, hsr193_0_0, hbr193_1_2, hsr193_1_2⟩
          have h199 := sk_r h192
          refine Al' 33 #[(vi 0), (vi 0), (.slice none ([] : List Expr).length 0)] hs196 (fun b200 w201 hs202 => ?_)
          refine St0 (kExpr r193.2 ar193_1_2 nr193_1_2) hs202 (fun w203 hs204 => ?_)
          refine Nss (Rg [0, 1] ?_)
          refine Vs 1 ?_
          have hs205 := hs204.pk4.pk4.pk4.pk3.pk4
          obtain ⟨r206, hr207, h208⟩ := bind_some h199
          refine CP co_rules_parser_expect (c_rules_parser_expect N bp0 (r193.1) ar193_0_0 nr193_0_0 hbr193_0_0 hsr193_0_0 (([44] : List UInt8)) hs205 _ hr207) ?_ ?_
          ·rintro r209 _ F14 w211 _ rfl hs212 le213 ⟨ar209_0_0, nr209_0_0, rfl, rfl, hbr209_0_0, hsr209_0_0⟩
           have h215 := sk_r h208
           refine Nss (Rg [0, 1, 2, 3] ?_)
           refine Vs 1 ?_
           obtain ⟨r216, hr217, h218⟩ := bind_some h215
           refine CP co_rules_parser_expr (hsR145 (hG.mono (((((((le47.trans le122).trans le150).trans le162).trans le172).trans le187).trans le197).trans le213)) bp0 (r209) ar209_0_0 nr209_0_0 hbr209_0_0 hsr209_0_0 hs212 _ hr217) ?_ ?_
           ·rintro r219 _ F15 w221 _ rfl hs222 le223 ⟨ar219_0_0, nr219_0_0, ar219_1_2, nr219_1_2, rfl, rfl, hbr219_0_0, hsr219_0_0, hbr219_1_2, hsr219_1_2⟩
            have h225 := sk_r h218
            refine Al' 33 #[(vi 0), (vi 0), (.slice none ([] : List Expr).length 0)] hs222 (fun b226 w227 hs228 => ?_)
            refine St0 (kExpr r219.2 ar219_1_2 nr219_1_2) hs228 (fun w229 hs230 => ?_)
            refine Nss (Rg [0, 1] ?_)
            refine Vs 1 ?_
            have hs231 := hs230.pk5.pk5.pk5.pk5.pk4
            obtain ⟨r232, hr233, h234⟩ := bind_some h225
            refine CP co_rules_parser_leave (c_rules_parser_leave N bp0 (r219.1) ar219_0_0 nr219_0_0 hbr219_0_0 hsr219_0_0 hs231.pk5 _ hr233) ?_ ?_
            ·rintro r235 _ F16 w237 _ rfl hs238 le239 ⟨ar235_0_0, nr235_0_0, rfl, rfl, hbr235_0_0, hsr235_0_0⟩
             have h241 := sk_r h234
             refine Nss (Rg [0, 1, 2, 3, 4, 5] ?_)
             refine Ld hs238.at3 ?_
             refine Ld hs238.at2 ?_
             refine Ld hs238.at1 ?_
             refine Bs 33 [(vi r168.2.Op), (vi r168.2.Value), (.slice ar168_1_2 r168.2.Kids.length nr168_1_2), (vi r193.2.Op), (vi r193.2.Value), (.slice ar193_1_2 r193.2.Kids.length nr193_1_2), (vi r219.2.Op), (vi r219.2.Value), (.slice ar219_1_2 r219.2.Kids.length nr219_1_2)] hs238 (fun b242 w243 hs244 => ?_)
             have hr246 : RowR tExpr 33 F16 (some ⟨b242, 0, none⟩) 3 [r168.2, r193.2, r219.2] (some b242, .cells ([(vi r168.2.Op), (vi r168.2.Value), (.slice ar168_1_2 r168.2.Kids.length nr168_1_2), (vi r193.2.Op), (vi r193.2.Value), (.slice ar193_1_2 r193.2.Kids.length nr193_1_2), (vi r219.2.Op), (vi r219.2.Value), (.slice ar219_1_2 r219.2.Kids.length nr219_1_2)] : List Value).toArray 33 (0, 0)) := RowR.lit ⟨(tExpr_mk ⟨ar168_1_2, nr168_1_2, rfl, hbr168_1_2, (SlA.mono hsr168_1_2 ((((le187.trans le197).trans le213).trans le223).trans le239))⟩), ⟨(tExpr_mk ⟨ar193_1_2, nr193_1_2, rfl, hbr193_1_2, (SlA.mono hsr193_1_2 ((le213.trans le223).trans le239))⟩), ⟨(tExpr_mk ⟨ar219_1_2, nr219_1_2, rfl, hbr219_1_2, (SlA.mono hsr219_1_2 le239)⟩), rfl⟩⟩⟩ (by simp)
             refine Vs 1 ?_
             refine St6 #[(vi 11), (vi 0), (.slice (some ⟨b242, 0, none⟩) [r168.2, r193.2, r219.2].length 3)] hs244 (fun w247 hs248 => ?_)
             refine Nt ?_
             refine Rt ?_
             refine blockQ_ret ?_
             refine thenQ_ret ?_
             have hb252 := RowR.bound hr246
             obtain ⟨F17, hs249, le250, hs251⟩ := hs248.fr0 hr246
             have hs253 := hs249.dr1.dr1.dr1.dr1.dr1
             obtain rfl := some_inj h241
             exact ⟨rfl, (.agg #[(vi 11), (vi 0), (.slice (some ⟨b242, 0, none⟩) [r168.2, r193.2, r219.2].length 3)]), res_of (l := [.cell 2 33]) (by kernel_rfl) (vs := [(.agg #[(vi 11), (vi 0), (.slice (some ⟨b242, 0, none⟩) [r168.2, r193.2, r219.2].length 3)])]) ⟨b21, 0, rfl, run_loadVar' (t := 33) (g := true) (s := 3) (by kernel_rfl) hs249.at5 rfl (by decide), trivial⟩, .inl ⟨_, F17, _, _, rfl, rfl, hs253, ((((((((((le47.trans le122).trans le150).trans le162).trans le172).trans le187).trans le197).trans le213).trans le223).trans le239).trans le250), ⟨ar235_0_0, nr235_0_0, (some ⟨b242, 0, none⟩), 3, rfl, rfl, hbr235_0_0, (SlA.mono hsr235_0_0 le250), hb252, hs251⟩⟩⟩
            ·rintro b254 F18 w255 rfl hs256 le257
             have h258 := sk_l h234
             refine thenQ_pan ?_
             refine blockQ_pan ?_
             refine thenQ_pan ?_
             have hs260 := hs256.dr0.dr0.dr0.dr0.dr0
             obtain rfl := some_inj h258
             exact RePi hs260 (((((((((le47.trans le122).trans le150).trans le162).trans le172).trans le187).trans le197).trans le213).trans le223).trans le257)
           ·rintro b261 F19 w262 rfl hs263 le264
            have h265 := sk_l h218
            refine thenQ_pan ?_
            refine blockQ_pan ?_
            refine thenQ_pan ?_
            obtain rfl := some_inj h265
            exact RePi hs263.dr0.dr0.dr0.dr0 ((((((((le47.trans le122).trans le150).trans le162).trans le172).trans le187).trans le197).trans le213).trans le264)
          ·rintro b267 F20 w268 rfl hs269 le270
           have h271 := sk_l h208
           refine thenQ_pan ?_
           refine blockQ_pan ?_
           refine thenQ_pan ?_
           obtain rfl := some_inj h271
           exact RePi hs269.dr0.dr0.dr0.dr0 (((((((le47.trans le122).trans le150).trans le162).trans le172).trans le187).trans le197).trans le270)
         ·rintro b273 F21 w274 rfl hs275 le276
          have h277 := sk_l h192
          refine thenQ_pan ?_
          refine blockQ_pan ?_
          refine thenQ_pan ?_
          obtain rfl := some_inj h277
          exact RePi hs275.dr0.dr0.dr0 ((((((le47.trans le122).trans le150).trans le162).trans le172).trans le187).trans le276)
        ·rintro b279 F22 w280 rfl hs281 le282
         have h283 := sk_l h182
         refine thenQ_pan ?_
         refine blockQ_pan ?_
         refine thenQ_pan ?_
         obtain rfl := some_inj h283
         exact RePi hs281.dr0.dr0.dr0 (((((le47.trans le122).trans le150).trans le162).trans le172).trans le282)
       ·rintro b285 F23 w286 rfl hs287 le288
        have h289 := sk_l h167
        refine thenQ_pan ?_
        refine blockQ_pan ?_
        refine thenQ_pan ?_
        obtain rfl := some_inj h289
        exact RePi hs287.dr0.dr0 ((((le47.trans le122).trans le150).trans le162).trans le288)
      ·rintro b291 F24 w292 rfl hs293 le294
       have h295 := sk_l h157
       refine thenQ_pan ?_
       refine blockQ_pan ?_
       refine thenQ_pan ?_
       obtain rfl := some_inj h295
       exact RePi hs293.dr0.dr0 (((le47.trans le122).trans le150).trans le294)
     ·refine Sq (Rg [0, 1, 2] ?_)
      refine Vs 1 ?_
      obtain ⟨r297, hr298, h299⟩ := bind_some h154
      refine CB co_rules_parser_peek (c_rules_parser_peek N bp0 (r145.1) ar145_0_0 nr145_0_0 hbr145_0_0 hsr145_0_0 (([40] : List UInt8)) hs149 _ hr298) ?_
      rintro _ F25 w300 _ hs301 le302 ⟨rfl, rfl⟩
      refine Vs 1 ?_
      refine Nt ?_
      refine Cd h299 (fun hb304 h305 => ?_) (fun hb304 h306 => ?_)
      ·refine Sq (Rg [0, 1] ?_)
       refine Vs 1 ?_
       obtain ⟨r307, hr308, h309⟩ := bind_some h305
       refine CP co_rules_parser_enter (c_rules_parser_enter N bp0 (r145.1) ar145_0_0 nr145_0_0 hbr145_0_0 (SlA.mono hsr145_0_0 le302) hs301 _ hr308) ?_ ?_
       ·rintro r310 _ F26 w312 _ rfl hs313 le314 ⟨ar310_0_0, nr310_0_0, rfl, rfl, hbr310_0_0, hsr310_0_0⟩
        have h316 := sk_r h309
        refine Nss (Rg [0, 1, 2, 3] ?_)
        refine Vs 1 ?_
        obtain ⟨r317, hr318, h319⟩ := bind_some h316
        refine CP co_rules_parser_expr (hsR145 (hG.mono ((((le47.trans le122).trans le150).trans le302).trans le314)) bp0 (r310) ar310_0_0 nr310_0_0 hbr310_0_0 hsr310_0_0 hs313 _ hr318) ?_ ?_
        ·rintro r320 _ F27 w322 _ rfl hs323 le324 ⟨ar320_0_0, nr320_0_0, ar320_1_2, nr320_1_2, rfl, rfl, hbr320_0_0, hsr320_0_0, hbr320_1_2, hsr320_1_2⟩
         have h326 := sk_r h319
         refine Al' 33 #[(vi 0), (vi 0), (.slice none ([] : List Expr).length 0)] hs323 (fun b327 w328 hs329 => ?_)
         refine St0 (kExpr r320.2 ar320_1_2 nr320_1_2) hs329 (fun w330 hs331 => ?_)
         refine Nss (Rg [0, 1] ?_)
         refine Vs 1 ?_
         obtain ⟨r332, hr333, h334⟩ := bind_some h326
         refine CP co_rules_parser_leave (c_rules_parser_leave N bp0 (r320.1) ar320_0_0 nr320_0_0 hbr320_0_0 hsr320_0_0 hs331.pk3.pk3.pk2.pk3 _ hr333) ?_ ?_
         ·rintro r335 _ F28 w337 _ rfl hs338 le339 ⟨ar335_0_0, nr335_0_0, rfl, rfl, hbr335_0_0, hsr335_0_0⟩
          have h341 := sk_r h334
          refine Nss (Rg [0, 1] ?_)
          refine Ld hs338.at1 ?_
          refine St3 (kExpr r320.2 ar320_1_2 nr320_1_2) hs338 (fun w342 hs343 => ?_)
          refine Nt ?_
          refine Rt ?_
          refine blockQ_ret ?_
          refine thenQ_ret ?_
          obtain rfl := some_inj h341
          exact ⟨rfl, (.agg (kExpr r320.2 ar320_1_2 nr320_1_2)), res_of (l := [.cell 2 33]) (by kernel_rfl) (vs := [(.agg (kExpr r320.2 ar320_1_2 nr320_1_2))]) ⟨b21, 0, rfl, run_loadVar' (t := 33) (g := true) (s := 3) (by kernel_rfl) hs343.at3 rfl (by decide), trivial⟩, .inl ⟨_, F28, _, _, rfl, rfl, hs343.dr1.dr1.dr1, ((((((le47.trans le122).trans le150).trans le302).trans le314).trans le324).trans le339), ⟨ar335_0_0, nr335_0_0, ar320_1_2, nr320_1_2, rfl, rfl, hbr335_0_0, hsr335_0_0, hbr320_1_2, (SlA.mono hsr320_1_2 le339)⟩⟩⟩
         ·rintro b344 F29 w345 rfl hs346 le347
          have h348 := sk_l h334
          refine thenQ_pan ?_
          refine blockQ_pan ?_
          refine thenQ_pan ?_
          obtain rfl := some_inj h348
          exact RePi hs346.dr0.dr0.dr0 ((((((le47.trans le122).trans le150).trans le302).trans le314).trans le324).trans le347)
        ·rintro b350 F30 w351 rfl hs352 le353
         have h354 := sk_l h319
         refine thenQ_pan ?_
         refine blockQ_pan ?_
         refine thenQ_pan ?_
         obtain rfl := some_inj h354
         exact RePi hs352.dr0.dr0 (((((le47.trans le122).trans le150).trans le302).trans le314).trans le353)
       ·rintro b356 F31 w357 rfl hs358 le359
        have h360 := sk_l h309
        refine thenQ_pan ?_
        refine blockQ_pan ?_
        refine thenQ_pan ?_
        obtain rfl := some_inj h360
        exact RePi hs358.dr0.dr0 ((((le47.trans le122).trans le150).trans le302).trans le359)
      ·refine Sc ?_
       refine blockQ_nrm ?_
       refine thenQ_nrm ?_
       refine Sq (Rg [0, 1, 2, 3] ?_)
       refine Vs 2 ?_
       refine Ld hs301.at1 ?_
       obtain ⟨r362, hr363, h364⟩ := bind_some h306
       refine CP co_rules_parser_fail (c_rules_parser_fail N bp0 (r145.1) ar145_0_0 nr145_0_0 hbr145_0_0 (SlA.mono hsr145_0_0 le302) (60) (x24.at_) hs301 _ hr363) ?_ ?_
       ·rintro _ _ _ _ _ rfl _ _ _; cases hr363
       ·rintro b367 F33 w368 rfl hs369 le370
        have h371 := sk_l h364
        refine thenQ_pan ?_
        obtain rfl := some_inj h371
        exact RePi hs369.dr0.dr0 ((((le47.trans le122).trans le150).trans le302).trans le370)
end Go.Proofs.YtaihlcdkcampbaaGreatDoor
namespace Go.Proofs.YtaihlcdkcampbaaGreatDoor
open Go.Proofs
structure Rec145 where
 q145 : rules_parser → Option (rules_bad ⊕ (rules_parser × Expr))
 q185 : rules_parser → Option (rules_bad ⊕ (rules_parser × Expr))
 q212 : rules_parser → Option (rules_bad ⊕ (rules_parser × Expr))
 q226 : rules_parser → Option (rules_bad ⊕ (rules_parser × Expr))
 q233 : rules_parser → Option (rules_bad ⊕ (rules_parser × Expr))
 q239 : rules_parser → Option (rules_bad ⊕ (rules_parser × Expr))
 q243 : rules_parser → Option (rules_bad ⊕ (rules_parser × Expr))
def rec145 (N : Nat) : Nat → Rec145
 | 0 => ⟨fun _ => none, fun _ => none, fun _ => none, fun _ => none, fun _ => none, fun _ => none, fun _ => none⟩
 | k + 1 => ⟨rules_parser_expr_S N (rec145 N k).q185, rules_parser_both_S N (rec145 N k).q212, rules_parser_deny_S N (rec145 N k).q212 (rec145 N k).q226, rules_parser_test_S N (rec145 N k).q233, rules_parser_sum_S N (rec145 N k).q239, rules_parser_term_S N (rec145 N k).q243, rules_parser_item_S N (rec145 N k).q145⟩
theorem rec145_ok (N : Nat) : ∀ k, Self145 (rec145 N k).q145 ∧ Self185 (rec145 N k).q185 ∧ Self212 (rec145 N k).q212 ∧ Self226 (rec145 N k).q226 ∧ Self233 (rec145 N k).q233 ∧ Self239 (rec145 N k).q239 ∧ Self243 (rec145 N k).q243
 | 0 => ⟨(by unfold Self145; intros; rename_i h; cases h), (by unfold Self185; intros; rename_i h; cases h), (by unfold Self212; intros; rename_i h; cases h), (by unfold Self226; intros; rename_i h; cases h), (by unfold Self233; intros; rename_i h; cases h), (by unfold Self239; intros; rename_i h; cases h), (by unfold Self243; intros; rename_i h; cases h)⟩
 | k + 1 => by
  have ih := rec145_ok N k
  exact ⟨@cS_rules_parser_expr N (rec145 N k).q185 ih.2.1, @cS_rules_parser_both N (rec145 N k).q212 ih.2.2.1, @cS_rules_parser_deny N (rec145 N k).q212 ih.2.2.1 (rec145 N k).q226 ih.2.2.2.1, @cS_rules_parser_test N (rec145 N k).q233 ih.2.2.2.2.1, @cS_rules_parser_sum N (rec145 N k).q239 ih.2.2.2.2.2.1, @cS_rules_parser_term N (rec145 N k).q243 ih.2.2.2.2.2.2, @cS_rules_parser_item N (rec145 N k).q145 ih.1⟩
def rules_parser_expr (N : Nat) (x0 : rules_parser) : Option (rules_bad ⊕ (rules_parser × Expr)) := (rec145 N N).q145 x0
theorem c_rules_parser_expr (N : Nat) {wb w0 : World} {Fb F0 : Mem} {Lf : Own} (hG : Glob F0) (bp0 : Nat) (x0 : rules_parser) (a0_0 : Option Addr) (n0_0 : Nat) (hb0_0 : LC x0.l_.length n0_0) (hs0_0 : SlA trules_token F0 a0_0 x0.l_) (hs0 : HS wb Fb w0 F0 ((some bp0, (.cells #[(.slice a0_0 x0.l_.length n0_0), (.int .i64 x0.open_)] 100 (0, 0))) :: Lf)) (r : (rules_bad ⊕ (rules_parser × Expr))) (h : rules_parser_expr N x0 = some r) :
  Calls Tryz.prog 145 ([(.pointer (some ⟨bp0, 0, none⟩))] : List Value).toArray w0 (BRetP wb Fb F0 Lf r (fun b => (.iface 158 (.agg #[(.int .i64 b.e_), (.int .i64 b.at_)]))) fun a F' v L' => ∃ (aq0_0 : Option Addr) (nq0_0 : Nat) (aq1_2 : Option Addr) (nq1_2 : Nat), v = (.agg #[(.int .i64 a.2.Op), (.int .i64 a.2.Value), (.slice aq1_2 a.2.Kids.length nq1_2)]) ∧ L' = (some bp0, (.cells #[(.slice aq0_0 a.1.l_.length nq0_0), (.int .i64 a.1.open_)] 100 (0, 0))) :: Lf ∧ LC a.1.l_.length nq0_0 ∧ SlA trules_token F' aq0_0 a.1.l_ ∧ LC a.2.Kids.length nq1_2 ∧ SlA tExpr F' aq1_2 a.2.Kids) := (rec145_ok N N).1 hG bp0 x0 a0_0 n0_0 hb0_0 hs0_0 hs0 r h
end Go.Proofs.YtaihlcdkcampbaaGreatDoor
namespace Go.Proofs.YtaihlcdkcampbaaGreatDoor
open Go.Proofs
def rules_parser_placed (N : Nat) (x0 : rules_parser) : Option (rules_bad ⊕ (rules_parser × rules_placed)) :=
 ((idx x0.l_ 0).bind fun x24 => ((rules_parser_expr N x0).bind fun r38 => sk r38 (fun b50 => some (.inl b50)) (fun r41 => some (.inr (r41.1, ({ Expr := r41.2, at_ := x24.at_ } : rules_placed))))))
theorem co_rules_parser_placed : CallOk Tryz.prog 86 := fun _ _ => by kernel_rfl
theorem c_rules_parser_placed (N : Nat) {wb w0 : World} {Fb F0 : Mem} {Lf : Own} (hG : Glob F0) (bp0 : Nat) (x0 : rules_parser) (a0_0 : Option Addr) (n0_0 : Nat) (hb0_0 : LC x0.l_.length n0_0) (hs0_0 : SlA trules_token F0 a0_0 x0.l_) (hs0 : HS wb Fb w0 F0 ((sb bp0 (krules_parser x0 a0_0 n0_0) 100) :: Lf)) (r : (rules_bad ⊕ (rules_parser × rules_placed))) (h : rules_parser_placed N x0 = some r) :
  Calls Tryz.prog 86 ([(pt bp0 0)] : List Value).toArray w0 (BRetP wb Fb F0 Lf r (fun b => (.iface 158 (.agg (krules_bad b)))) fun a F' v L' => ∃ (aq0_0 : Option Addr) (nq0_0 : Nat) (aq1_2 : Option Addr) (nq1_2 : Nat), v = (.agg (krules_placed a.2 aq1_2 nq1_2)) ∧ L' = (sb bp0 (krules_parser a.1 aq0_0 nq0_0) 100) :: Lf ∧ LC a.1.l_.length nq0_0 ∧ SlA trules_token F' aq0_0 a.1.l_ ∧ LC a.2.Expr.Kids.length nq1_2 ∧ SlA tExpr F' aq1_2 a.2.Expr.Kids) := by
 refine Go 15 Tryz.func86 ?_
 refine Sq (Rg [0] ?_)
 refine Al' 113 #[(vi 0), (vi 0), (.slice none ([] : List Expr).length 0), (vi 0)] hs0 (fun b21 w22 hs23 => ?_)
 refine Nss (Rg [0, 1, 2, 3, 4, 5, 6, 7] ?_)
 refine Vs 3 ?_
 refine Ld hs23.at1 ?_
 obtain ⟨x24, hx25, h27⟩ := bind_some h
 obtain ⟨hi26, hx25'⟩ := idx_spec hx25
 obtain ⟨b28, o29, C30, E31, fz32, rfl, hF34, hE35⟩ := SlA.open hs0_0 hx25'
 have hc37 := hE35 _ _ hx25'
 refine Ix hi26 ?_
 refine Vs 1 ?_
 refine Lx 1 (hs23.pers _ _ hF34) hc37 ?_
 refine Vs 1 ?_
 refine Nss (Rg [0, 1, 2, 3, 4] ?_)
 refine Vs 1 ?_
 obtain ⟨r38, hr39, h40⟩ := bind_some h27
 refine CP co_rules_parser_expr (c_rules_parser_expr N hG bp0 (x0) (some ⟨b28, o29, none⟩) n0_0 hb0_0 hs0_0 hs23.pk1 _ hr39) ?_ ?_
 ·rintro r41 _ F1 w43 _ rfl hs44 le45 ⟨ar41_0_0, nr41_0_0, ar41_1_2, nr41_1_2, rfl, rfl, hbr41_0_0, hsr41_0_0, hbr41_1_2, hsr41_1_2⟩
  have h47 := sk_r h40
  refine Vs 2 ?_
  refine St1 #[(vi r41.2.Op), (vi r41.2.Value), (.slice ar41_1_2 r41.2.Kids.length nr41_1_2), (vi x24.at_)] hs44 (fun w48 hs49 => ?_)
  refine Nt ?_
  refine Rt ?_
  obtain rfl := some_inj h47
  exact ⟨rfl, (.agg #[(vi r41.2.Op), (vi r41.2.Value), (.slice ar41_1_2 r41.2.Kids.length nr41_1_2), (vi x24.at_)]), res_of (l := [.cell 2 113]) (by kernel_rfl) (vs := [(.agg #[(vi r41.2.Op), (vi r41.2.Value), (.slice ar41_1_2 r41.2.Kids.length nr41_1_2), (vi x24.at_)])]) ⟨b21, 0, rfl, run_loadVar' (t := 113) (g := true) (s := 4) (by kernel_rfl) hs49.at1 rfl (by decide), trivial⟩, .inl ⟨_, F1, _, _, rfl, rfl, hs49.dr1, le45, ⟨ar41_0_0, nr41_0_0, ar41_1_2, nr41_1_2, rfl, rfl, hbr41_0_0, hsr41_0_0, hbr41_1_2, hsr41_1_2⟩⟩⟩
 ·rintro b50 F2 w51 rfl hs52 le53
  have h54 := sk_l h40
  refine thenQ_pan ?_
  obtain rfl := some_inj h54
  exact RePi hs52.dr0 le53
end Go.Proofs.YtaihlcdkcampbaaGreatDoor
namespace Go.Proofs.YtaihlcdkcampbaaGreatDoor
open Go.Proofs
def rules_parser_check (N : Nat) (x0 : rules_parser) (x1 : rules_placed) (x2 : Int) : Option (rules_bad ⊕ Unit) :=
 ((rules_kindOf N x1.Expr).bind fun r24 => ((rules_Depth N x1.Expr).bind fun r32 => (bif (decide (r32 > 32)) then ((rules_parser_fail N x0 2 x1.at_).bind fun r43 => sk r43 (fun b48 => some (.inl b48)) (fun r46 => none)) else (bif ((r24 == 0) || ((x2 != 0) && (r24 != x2))) then ((rules_parser_fail N x0 61 x1.at_).bind fun r66 => sk r66 (fun b71 => some (.inl b71)) (fun r69 => none)) else some (.inr ())))))
theorem co_rules_parser_check : CallOk Tryz.prog 88 := fun _ _ => by kernel_rfl
theorem c_rules_parser_check (N : Nat) {wb w0 : World} {Fb F0 : Mem} {Lf : Own} (bp0 : Nat) (x0 : rules_parser) (a0_0 : Option Addr) (n0_0 : Nat) (hb0_0 : LC x0.l_.length n0_0) (hs0_0 : SlA trules_token F0 a0_0 x0.l_) (x1 : rules_placed) (a1_2 : Option Addr) (n1_2 : Nat) (hb1_2 : LC x1.Expr.Kids.length n1_2) (hs1_2 : SlA tExpr F0 a1_2 x1.Expr.Kids) (x2 : Int) (hs0 : HS wb Fb w0 F0 ((sb bp0 (krules_parser x0 a0_0 n0_0) 100) :: Lf)) (r : (rules_bad ⊕ Unit)) (h : rules_parser_check N x0 x1 x2 = some r) :
  Calls Tryz.prog 88 ([(pt bp0 0), (.agg (krules_placed x1 a1_2 n1_2)), (vi x2)] : List Value).toArray w0 (BRetP wb Fb F0 Lf r (fun b => (.iface 158 (.agg (krules_bad b)))) fun a F' v L' => v = (.tuple #[]) ∧ L' = (sb bp0 (krules_parser x0 a0_0 n0_0) 100) :: Lf) := by
 refine Go 35 Tryz.func88 ?_
 refine Sq (Rg [0] ?_)
 refine Bx' 113 (krules_placed x1 a1_2 n1_2) hs0 (fun b21 w22 hs23 => ?_)
 refine Nss (Rg [0, 1, 2, 3] ?_)
 refine Vs 1 ?_
 refine Ld hs23.at0 ?_
 obtain ⟨r24, hr25, h26⟩ := bind_some h
 refine Cl' co_rules_kindOf hs23 (c_rules_kindOf N w22 F0 hs23.pers (x1.Expr) a1_2 n1_2 hb1_2 hs1_2 _ hr25) ?_
 rintro _ F1 w28 hs29 le30 rfl
 refine Vs 1 ?_
 refine Nt ?_
 refine Bk ?_
 refine Sq (Rg [0, 1, 2, 3, 4] ?_)
 refine Vs 1 ?_
 refine Ld hs29.at0 ?_
 obtain ⟨r32, hr33, h34⟩ := bind_some h26
 refine Cl' co_rules_Depth hs29 (c_rules_Depth N w28 F1 hs29.pers (x1.Expr) a1_2 n1_2 hb1_2 (SlA.mono hs1_2 le30) _ hr33) ?_
 rintro _ F2 w36 hs37 le38 rfl
 refine Vs 2 ?_
 refine Nt ?_
 refine Cd h34 (fun hb40 h41 => ?_) (fun hb40 h42 => ?_)
 ·refine Rg [0, 1, 2, 3] ?_
  refine Vs 2 ?_
  refine Ld hs37.at0 ?_
  obtain ⟨r43, hr44, h45⟩ := bind_some h41
  refine CP co_rules_parser_fail (c_rules_parser_fail N bp0 (x0) a0_0 n0_0 hb0_0 (SlA.mono hs0_0 (le30.trans le38)) (2) (x1.at_) hs37.pk1 _ hr44) ?_ ?_
  ·rintro _ _ _ _ _ rfl _ _ _; cases hr44
  ·rintro b48 F4 w49 rfl hs50 le51
   have h52 := sk_l h45
   refine blockQ_pan ?_
   obtain rfl := some_inj h52
   exact RePi hs50.dr0 ((le30.trans le38).trans le51)
 ·refine Sq (Rg [0, 1, 2, 3, 4, 5, 6, 7, 8, 9, 10, 11] ?_)
  refine RWP.cut (fun f w => ∃ (F5 : Mem), HS wb Fb w F5 ((sb b21 (krules_placed x1 a1_2 n1_2) 113) :: (sb bp0 (krules_parser x0 a0_0 n0_0) 100) :: Lf) ∧ Mem.le F2 F5 ∧ FI f [] [(0, (pt bp0 0)), (4, (pt b21 0)), (19, (.bool ((r24 == 0) || ((x2 != 0) && (r24 != x2)))))]) ?_ ?_
  ·refine Vs 3 ?_
   refine RWP.split (r24 == 0) (fun hb61 => ?_) (fun hb61 => ?_)
   ·refine Ss hb61 3 ?_
    refine Su' 3 ?_
    refine Ss hb61 1 ?_
    refine Pk1 hb61 ?_
    refine Vs 1 ?_
    exact RWP.nil ⟨rfl, F2, hs37, (Mem.le.refl _), (fJ ⟨rfl, rfl, (congrArg Value.bool (or_t hb61 (rfl))), trivial⟩)⟩
   ·refine Vgs hb61 3 ?_
    refine RWP.split (x2 != 0) (fun hb62 => ?_) (fun hb62 => ?_)
    ·refine Vgs hb62 3 ?_
     refine Pg1 hb61 hb62 ?_
     refine Pk0 hb61 ?_
     refine Vs 1 ?_
     exact RWP.nil ⟨rfl, F2, hs37, (Mem.le.refl _), (fJ ⟨rfl, rfl, (congrArg Value.bool (or_f hb61 (and_t hb62 (rfl)))), trivial⟩)⟩
    ·refine Ss hb62 3 ?_
     refine Pg0 hb61 hb62 ?_
     refine Pk0 hb61 ?_
     refine Vs 1 ?_
     exact RWP.nil ⟨rfl, F2, hs37, (Mem.le.refl _), (fJ ⟨rfl, rfl, (congrArg Value.bool (or_f hb61 (and_f hb62 (rfl)))), trivial⟩)⟩
  ·rintro f w54 ⟨F5, hs55, le56, ⟨_, rfl⟩⟩
   refine thenQ_nrm ?_
   refine Cd h42 (fun hb63 h64 => ?_) (fun hb63 h65 => ?_)
   ·refine Rg [0, 1, 2, 3] ?_
    refine Vs 2 ?_
    refine Ld hs55.at0 ?_
    obtain ⟨r66, hr67, h68⟩ := bind_some h64
    refine CP co_rules_parser_fail (c_rules_parser_fail N bp0 (x0) a0_0 n0_0 hb0_0 (SlA.mono hs0_0 ((le30.trans le38).trans le56)) (61) (x1.at_) hs55.pk1 _ hr67) ?_ ?_
    ·rintro _ _ _ _ _ rfl _ _ _; cases hr67
    ·rintro b71 F7 w72 rfl hs73 le74
     have h75 := sk_l h68
     refine blockQ_pan ?_
     obtain rfl := some_inj h75
     exact RePi hs73.dr0 (((le30.trans le38).trans le56).trans le74)
   ·refine Sc ?_
    refine blockQ_nrm ?_
    obtain rfl := some_inj h65
    exact ReP [] hs55.dr0 ((le30.trans le38).trans le56) ⟨rfl, rfl⟩
end Go.Proofs.YtaihlcdkcampbaaGreatDoor
namespace Go.Proofs.YtaihlcdkcampbaaGreatDoor
open Go.Proofs
def rules_ParseExpr_1 (N : Nat) (x0 : rules_parser) (z0 : rules_placed) : Option (rules_bad ⊕ (rules_parser × rules_placed)) :=
 ((rules_parser_placed N x0).bind fun r21 => sk r21 (fun b83 => some (.inl b83)) (fun r24 => ((idx r24.1.l_ 0).bind fun x33 => (bif (x33.kind_ != 0) then ((idx r24.1.l_ 0).bind fun x50 => ((rules_parser_fail N r24.1 60 x50.at_).bind fun r56 => sk r56 (fun b61 => some (.inl b61)) (fun r59 => none))) else ((rules_parser_check N r24.1 r24.2 0).bind fun r67 => sk r67 (fun b77 => some (.inl b77)) (fun r70 => some (.inr (r24.1, r24.2))))))))
theorem co_rules_ParseExpr_1 : CallOk Tryz.prog 85 := fun _ _ => by kernel_rfl
theorem c_rules_ParseExpr_1 (N : Nat) {wb w0 : World} {Fb F0 : Mem} {Lf : Own} (hG : Glob F0) (bp0 : Nat) (x0 : rules_parser) (a0_0 : Option Addr) (n0_0 : Nat) (hb0_0 : LC x0.l_.length n0_0) (hs0_0 : SlA trules_token F0 a0_0 x0.l_) (bz0 : Nat) (z0 : rules_placed) (az0_2 : Option Addr) (nz0_2 : Nat) (hbz0_2 : LC z0.Expr.Kids.length nz0_2) (hsz0_2 : SlA tExpr F0 az0_2 z0.Expr.Kids) (hs0 : HS wb Fb w0 F0 ((sb bp0 (krules_parser x0 a0_0 n0_0) 100) :: (sb bz0 (krules_placed z0 az0_2 nz0_2) 113) :: Lf)) (r : (rules_bad ⊕ (rules_parser × rules_placed))) (h : rules_ParseExpr_1 N x0 z0 = some r) :
  Calls Tryz.prog 85 ([(pt bp0 0), (pt bz0 0)] : List Value).toArray w0 (BRetP wb Fb F0 Lf r (fun b => (.iface 158 (.agg (krules_bad b)))) fun a F' v L' => ∃ (aq0_0 : Option Addr) (nq0_0 : Nat) (aq1_2 : Option Addr) (nq1_2 : Nat), v = (.tuple #[]) ∧ L' = (sb bp0 (krules_parser a.1 aq0_0 nq0_0) 100) :: (sb bz0 (krules_placed a.2 aq1_2 nq1_2) 113) :: Lf ∧ LC a.1.l_.length nq0_0 ∧ SlA trules_token F' aq0_0 a.1.l_ ∧ LC a.2.Expr.Kids.length nq1_2 ∧ SlA tExpr F' aq1_2 a.2.Expr.Kids) := by
 refine Go 25 Tryz.func85 ?_
 refine Sq (Rg [0, 1, 2] ?_)
 refine Vs 1 ?_
 obtain ⟨r21, hr22, h23⟩ := bind_some h
 refine CP co_rules_parser_placed (c_rules_parser_placed N hG bp0 (x0) a0_0 n0_0 hb0_0 hs0_0 hs0 _ hr22) ?_ ?_
 ·rintro r24 _ F1 w26 _ rfl hs27 le28 ⟨ar24_0_0, nr24_0_0, ar24_1_2, nr24_1_2, rfl, rfl, hbr24_0_0, hsr24_0_0, hbr24_1_2, hsr24_1_2⟩
  have h30 := sk_r h23
  refine St1 (krules_placed r24.2 ar24_1_2 nr24_1_2) hs27 (fun w31 hs32 => ?_)
  refine Nss ?_
  refine Sq (Rg [0, 1, 2, 3, 4, 5, 6, 7] ?_)
  refine Vs 3 ?_
  refine Ld hs32.at0 ?_
  obtain ⟨x33, hx34, h36⟩ := bind_some h30
  obtain ⟨hi35, hx34'⟩ := idx_spec hx34
  obtain ⟨b37, o38, C39, E40, fz41, rfl, hF43, hE44⟩ := SlA.open hsr24_0_0 hx34'
  have hc46 := hE44 _ _ hx34'
  refine Ix hi35 ?_
  refine Vs 1 ?_
  refine Lx 0 (hs32.pers _ _ hF43) hc46 ?_
  refine Vs 1 ?_
  refine Nt ?_
  refine Cd h36 (fun hb47 h48 => ?_) (fun hb47 h49 => ?_)
  ·refine Rg [0, 1, 2, 3, 4, 5, 6, 7, 8] ?_
   refine Vs 4 ?_
   refine Ld hs32.at0 ?_
   obtain ⟨x50, hx51, h53⟩ := bind_some h48
   obtain ⟨hi52, hx51'⟩ := idx_spec hx51
   have hc55 := hE44 _ _ hx51'
   refine Ix hi52 ?_
   refine Vs 1 ?_
   refine Lx 1 (hs32.pers _ _ hF43) hc55 ?_
   obtain ⟨r56, hr57, h58⟩ := bind_some h53
   refine CP co_rules_parser_fail (c_rules_parser_fail N bp0 (r24.1) (some ⟨b37, o38, none⟩) nr24_0_0 hbr24_0_0 hsr24_0_0 (60) (x50.at_) hs32 _ hr57) ?_ ?_
   ·rintro _ _ _ _ _ rfl _ _ _; cases hr57
   ·rintro b61 F3 w62 rfl hs63 le64
    have h65 := sk_l h58
    refine thenQ_pan ?_
    obtain rfl := some_inj h65
    exact RePi hs63.dr0 (le28.trans le64)
  ·refine Sc ?_
   refine thenQ_nrm ?_
   refine Rg [0, 1, 2] ?_
   refine Vs 1 ?_
   refine Ld hs32.at1 ?_
   obtain ⟨r67, hr68, h69⟩ := bind_some h49
   refine CP co_rules_parser_check (c_rules_parser_check N bp0 (r24.1) (some ⟨b37, o38, none⟩) nr24_0_0 hbr24_0_0 hsr24_0_0 (r24.2) ar24_1_2 nr24_1_2 hbr24_1_2 hsr24_1_2 (0) hs32 _ hr68) ?_ ?_
   ·rintro r70 _ F4 w72 _ rfl hs73 le74 ⟨rfl, rfl⟩
    have h76 := sk_r h69
    refine RWP.nil ?_
    obtain rfl := some_inj h76
    exact ReP [] hs73 (le28.trans le74) ⟨(some ⟨b37, o38, none⟩), nr24_0_0, ar24_1_2, nr24_1_2, rfl, rfl, hbr24_0_0, (SlA.mono hsr24_0_0 le74), hbr24_1_2, (SlA.mono hsr24_1_2 le74)⟩
   ·rintro b77 F5 w78 rfl hs79 le80
    have h81 := sk_l h69
    obtain rfl := some_inj h81
    exact RePi hs79.dr0 (le28.trans le80)
 ·rintro b83 F6 w84 rfl hs85 le86
  have h87 := sk_l h23
  refine thenQ_pan ?_
  obtain rfl := some_inj h87
  exact RePi hs85.dr0 le86
end Go.Proofs.YtaihlcdkcampbaaGreatDoor
namespace Go.Proofs.YtaihlcdkcampbaaGreatDoor
open Go.Proofs
def rules_parser_ended (N : Nat) (x0 : rules_parser) : Option (rules_bad ⊕ Unit) :=
 (((idx x0.l_ 0).bind fun x30 => (bif (x30.kind_ != 0) then ((rules_parser_peek N x0 ([10] : List UInt8)).bind fun r47 => some (!r47)) else some false)).bind fun j24 => (bif j24 then ((idx x0.l_ 0).bind fun x57 => ((rules_parser_fail N x0 60 x57.at_).bind fun r71 => sk r71 (fun b76 => some (.inl b76)) (fun r74 => none))) else some (.inr ())))
theorem co_rules_parser_ended : CallOk Tryz.prog 136 := fun _ _ => by kernel_rfl
theorem c_rules_parser_ended (N : Nat) {wb w0 : World} {Fb F0 : Mem} {Lf : Own} (bp0 : Nat) (x0 : rules_parser) (a0_0 : Option Addr) (n0_0 : Nat) (hb0_0 : LC x0.l_.length n0_0) (hs0_0 : SlA trules_token F0 a0_0 x0.l_) (hs0 : HS wb Fb w0 F0 ((sb bp0 (krules_parser x0 a0_0 n0_0) 100) :: Lf)) (r : (rules_bad ⊕ Unit)) (h : rules_parser_ended N x0 = some r) :
  Calls Tryz.prog 136 ([(pt bp0 0)] : List Value).toArray w0 (BRetP wb Fb F0 Lf r (fun b => (.iface 158 (.agg (krules_bad b)))) fun a F' v L' => v = (.tuple #[]) ∧ L' = (sb bp0 (krules_parser x0 a0_0 n0_0) 100) :: Lf) := by
 refine Go 24 Tryz.func136 ?_
 refine Sq (Rg [0, 1, 2, 3, 4, 5, 6, 7, 8, 9, 10, 11, 12] ?_)
 obtain ⟨j24, hj28, h29⟩ := bind_some h
 refine RWP.cut (fun f w => ∃ (F1 : Mem), HS wb Fb w F1 ((sb bp0 (krules_parser x0 a0_0 n0_0) 100) :: Lf) ∧ Mem.le F0 F1 ∧ FI f [] [(0, (pt bp0 0)), (14, (.bool j24))]) ?_ ?_
 ·refine Vs 3 ?_
  refine Ld hs0.at0 ?_
  obtain ⟨x30, hx31, h33⟩ := bind_some hj28
  obtain ⟨hi32, hx31'⟩ := idx_spec hx31
  obtain ⟨b34, o35, C36, E37, fz38, rfl, hF40, hE41⟩ := SlA.open hs0_0 hx31'
  have hc43 := hE41 _ _ hx31'
  refine Ix hi32 ?_
  refine Vs 1 ?_
  refine Lx 0 (hs0.pers _ _ hF40) hc43 ?_
  refine Vs 2 ?_
  refine Sp h33 (fun hb44 h45 => ?_) (fun hb44 h46 => ?_)
  ·refine Vgs hb44 1 ?_
   obtain ⟨r47, hr48, h49⟩ := bind_some h45
   refine RWP.callB (dst := (some 12)) (ty := 4) (g := (some (8, true))) (by kernel_rfl) (gd_y (d := 10) (by kernel_rfl) rfl hb44) (f0 := (.func 134)) (aos := #[(.tmp 11), (.const (.string ⟨([10] : List UInt8).toArray⟩))]) (ats := #[95, 9]) (fid := 134) (first := #[]) (cap := #[]) (args := [(pt bp0 0), (.string ⟨(([10] : List UInt8)).toArray⟩)]) rfl co_rules_parser_peek (rfl) (c_rules_parser_peek N bp0 (x0) (some ⟨b34, o35, none⟩) n0_0 hb0_0 hs0_0 (([10] : List UInt8)) hs0 _ hr48) ?_
   rintro _ F2 w50 _ hs51 le52 ⟨rfl, rfl⟩
   refine Vgs hb44 1 ?_
   refine Pk1 hb44 ?_
   obtain rfl := some_inj h49
   exact RWP.nil ⟨rfl, F2, hs51, le52, fI⟩
  ·refine Ss hb44 3 ?_
   refine Pk0 hb44 ?_
   obtain rfl := some_inj h46
   exact RWP.nil ⟨rfl, F0, hs0, (Mem.le.refl _), fI⟩
 ·rintro f w21 ⟨F1, hs22, le23, ⟨_, rfl⟩⟩
  refine thenQ_nrm ?_
  refine Cd h29 (fun hb54 h55 => ?_) (fun hb54 h56 => ?_)
  ·refine Rg [0, 1, 2, 3, 4, 5, 6, 7, 8] ?_
   refine Vs 4 ?_
   refine Ld hs22.at0 ?_
   obtain ⟨x57, hx58, h60⟩ := bind_some h55
   obtain ⟨hi59, hx58'⟩ := idx_spec hx58
   obtain ⟨b61, o62, C63, E64, fz65, rfl, hF67, hE68⟩ := SlA.open (SlA.mono hs0_0 le23) hx58'
   have hc70 := hE68 _ _ hx58'
   refine Ix hi59 ?_
   refine Vs 1 ?_
   refine Lx 1 (hs22.pers _ _ hF67) hc70 ?_
   obtain ⟨r71, hr72, h73⟩ := bind_some h60
   refine CP co_rules_parser_fail (c_rules_parser_fail N bp0 (x0) (some ⟨b61, o62, none⟩) n0_0 hb0_0 (SlA.mono hs0_0 le23) (60) (x57.at_) hs22 _ hr72) ?_ ?_
   ·rintro _ _ _ _ _ rfl _ _ _; cases hr72
   ·rintro b76 F4 w77 rfl hs78 le79
    have h80 := sk_l h73
    obtain rfl := some_inj h80
    exact RePi hs78 (le23.trans le79)
  ·refine Sc ?_
   obtain rfl := some_inj h56
   exact ReP [] hs22 le23 ⟨rfl, rfl⟩
end Go.Proofs.YtaihlcdkcampbaaGreatDoor
namespace Go.Proofs.YtaihlcdkcampbaaGreatDoor
open Go.Proofs
def rules_room_api_Expr (N : Nat) (x0 : rules_parser) (x1 : (List Expr)) (x2 : Int) : Option (rules_bad ⊕ Unit) :=
 (bif ((x1.length : Int) == 64) then ((rules_parser_fail N x0 2 x2).bind fun r24 => sk r24 (fun b29 => some (.inl b29)) (fun r27 => none)) else some (.inr ()))
theorem co_rules_room_api_Expr : CallOk Tryz.prog 137 := fun _ _ => by kernel_rfl
theorem c_rules_room_api_Expr (N : Nat) {wb w0 : World} {Fb F0 : Mem} {Lf : Own} (bp0 : Nat) (x0 : rules_parser) (a0_0 : Option Addr) (n0_0 : Nat) (hb0_0 : LC x0.l_.length n0_0) (hs0_0 : SlA trules_token F0 a0_0 x0.l_) (x1 : (List Expr)) (a1_0 : Option Addr) (n1_0 : Nat) (x2 : Int) (hs0 : HS wb Fb w0 F0 ((sb bp0 (krules_parser x0 a0_0 n0_0) 100) :: Lf)) (r : (rules_bad ⊕ Unit)) (h : rules_room_api_Expr N x0 x1 x2 = some r) :
  Calls Tryz.prog 137 ([(pt bp0 0), (.slice a1_0 x1.length n1_0), (vi x2)] : List Value).toArray w0 (BRetP wb Fb F0 Lf r (fun b => (.iface 158 (.agg (krules_bad b)))) fun a F' v L' => v = (.tuple #[]) ∧ L' = (sb bp0 (krules_parser x0 a0_0 n0_0) 100) :: Lf) := by
 refine Go 12 Tryz.func137 ?_
 refine Sq (Rg [0, 1, 2] ?_)
 refine Vs 3 ?_
 refine Nt ?_
 refine Cd h (fun hb21 h22 => ?_) (fun hb21 h23 => ?_)
 ·refine Rg [0, 1, 2] ?_
  refine Vs 2 ?_
  obtain ⟨r24, hr25, h26⟩ := bind_some h22
  refine CP co_rules_parser_fail (c_rules_parser_fail N bp0 (x0) a0_0 n0_0 hb0_0 hs0_0 (2) (x2) hs0 _ hr25) ?_ ?_
  ·rintro _ _ _ _ _ rfl _ _ _; cases hr25
  ·rintro b29 F2 w30 rfl hs31 le32
   have h33 := sk_l h26
   obtain rfl := some_inj h33
   exact RePi hs31 le32
 ·refine Sc ?_
  obtain rfl := some_inj h23
  exact ReP [] hs0 (Mem.le.refl _) ⟨rfl, rfl⟩
end Go.Proofs.YtaihlcdkcampbaaGreatDoor
namespace Go.Proofs.YtaihlcdkcampbaaGreatDoor
open Go.Proofs
def rules_room_api_Clause (N : Nat) (x0 : rules_parser) (x1 : (List Clause)) (x2 : Int) : Option (rules_bad ⊕ Unit) :=
 (bif ((x1.length : Int) == 64) then ((rules_parser_fail N x0 2 x2).bind fun r24 => sk r24 (fun b29 => some (.inl b29)) (fun r27 => none)) else some (.inr ()))
theorem co_rules_room_api_Clause : CallOk Tryz.prog 138 := fun _ _ => by kernel_rfl
theorem c_rules_room_api_Clause (N : Nat) {wb w0 : World} {Fb F0 : Mem} {Lf : Own} (bp0 : Nat) (x0 : rules_parser) (a0_0 : Option Addr) (n0_0 : Nat) (hb0_0 : LC x0.l_.length n0_0) (hs0_0 : SlA trules_token F0 a0_0 x0.l_) (x1 : (List Clause)) (a1_0 : Option Addr) (n1_0 : Nat) (x2 : Int) (hs0 : HS wb Fb w0 F0 ((sb bp0 (krules_parser x0 a0_0 n0_0) 100) :: Lf)) (r : (rules_bad ⊕ Unit)) (h : rules_room_api_Clause N x0 x1 x2 = some r) :
  Calls Tryz.prog 138 ([(pt bp0 0), (.slice a1_0 x1.length n1_0), (vi x2)] : List Value).toArray w0 (BRetP wb Fb F0 Lf r (fun b => (.iface 158 (.agg (krules_bad b)))) fun a F' v L' => v = (.tuple #[]) ∧ L' = (sb bp0 (krules_parser x0 a0_0 n0_0) 100) :: Lf) := by
 refine Go 12 Tryz.func138 ?_
 refine Sq (Rg [0, 1, 2] ?_)
 refine Vs 3 ?_
 refine Nt ?_
 refine Cd h (fun hb21 h22 => ?_) (fun hb21 h23 => ?_)
 ·refine Rg [0, 1, 2] ?_
  refine Vs 2 ?_
  obtain ⟨r24, hr25, h26⟩ := bind_some h22
  refine CP co_rules_parser_fail (c_rules_parser_fail N bp0 (x0) a0_0 n0_0 hb0_0 hs0_0 (2) (x2) hs0 _ hr25) ?_ ?_
  ·rintro _ _ _ _ _ rfl _ _ _; cases hr25
  ·rintro b29 F2 w30 rfl hs31 le32
   have h33 := sk_l h26
   obtain rfl := some_inj h33
   exact RePi hs31 le32
 ·refine Sc ?_
  obtain rfl := some_inj h23
  exact ReP [] hs0 (Mem.le.refl _) ⟨rfl, rfl⟩
end Go.Proofs.YtaihlcdkcampbaaGreatDoor
namespace Go.Proofs.YtaihlcdkcampbaaGreatDoor
open Go.Proofs
def PMap (b : Nat) (S : List UInt8 → Option Value) (e : Option Nat × Obj) : Prop :=
 ∃ es clk, e = (some b, .map es clk) ∧ ∀ k : List UInt8, ∃ r, Instr.findNow .string (.string ⟨k.toArray⟩) es.toList 0 = some r ∧ r.map (·.2) = S k
def supd (S : List UInt8 → Option Value) (k : List UInt8) (v : Value) : List UInt8 → Option Value := fun x => if x = k then some v else S x
theorem findNow_snoc {d : TypeDesc} {k : Value} {e : MapEntry} {b : Bool} (hs : Instr.sameNow d k e.key = some b) : ∀ (es : List MapEntry) (i : Nat) (r : Option (Nat × Value)), Instr.findNow d k es i = some r →
  ∃ r', Instr.findNow d k (es ++ [e]) i = some r' ∧ r'.map (·.2) = match r with | some p => some p.2 | none => if b then some e.val else none
 | [], i, r, h => by
  simp only [Instr.findNow, Option.some.injEq] at h; subst h
  cases b with
  | true => exact ⟨some (i, e.val), by simp [Instr.findNow, hs], rfl⟩
  | false => exact ⟨none, by simp [Instr.findNow, hs], rfl⟩
 | x :: es, i, r, h => by
  unfold Instr.findNow at h
  cases hx : Instr.sameNow d k x.key with
  | none => rw [hx] at h; cases h
  | some c =>
   rw [hx] at h
   cases c with
   | true => simp only [Option.some.injEq] at h; subst h; exact ⟨some (i, x.val), by simp [Instr.findNow, hx], rfl⟩
   | false =>
    simp only at h
    obtain ⟨r', h1, h2⟩ := findNow_snoc hs es (i + 1) r h
    exact ⟨r', by simp [Instr.findNow, hx, h1], h2⟩
theorem PMap.ins {b clk : Nat} {S : List UInt8 → Option Value} {es : Array MapEntry} (h : ∀ k : List UInt8, ∃ r, Instr.findNow .string (.string ⟨k.toArray⟩) es.toList 0 = some r ∧ r.map (·.2) = S k) (k0 : List UInt8) (v : Value) (hn : S k0 = none) :
  PMap b (supd S k0 v) (some b, .map (es.push ⟨.string ⟨k0.toArray⟩, v, clk⟩) (clk + 1)) := by
 refine ⟨_, _, rfl, fun k => ?_⟩
 obtain ⟨r, h1, h2⟩ := h k
 have hs : Instr.sameNow .string (.string ⟨k.toArray⟩) (.string ⟨k0.toArray⟩) = some (decide (k = k0)) := by
  simp only [Instr.sameNow, Option.some.injEq]
  rw [beq_toListBytes, ByteArray.toList_eq, ByteArray.toList_eq, Bool.eq_iff_iff]; simp
 obtain ⟨r', h3, h4⟩ := findNow_snoc (e := ⟨.string ⟨k0.toArray⟩, v, clk⟩) hs es.toList 0 r h1
 refine ⟨r', by rw [Array.toList_push]; exact h3, ?_⟩
 rw [h4]
 unfold supd
 cases r with
 | some p =>
  simp only at h2 ⊢
  have hne : k ≠ k0 := fun e => by rw [e, hn] at h2; cases h2
  rw [if_neg hne, ← h2]; rfl
 | none =>
  simp only at h2 ⊢
  by_cases hk : k = k0
  ·simp [hk]
  ·simp only [hk, decide_false, Bool.false_eq_true, if_false]; rw [← h2]; rfl
theorem PMap.nil (b : Nat) : PMap b (fun _ => none) (some b, .map #[] 0) := ⟨_, _, rfl, fun _ => ⟨none, rfl, rfl⟩⟩
theorem PMap.congr {b : Nat} {S S' : List UInt8 → Option Value} {e : Option Nat × Obj} (h : PMap b S e) (hs : ∀ k, S k = S' k) : PMap b S' e := by
 obtain ⟨es, clk, h1, h2⟩ := h; exact ⟨es, clk, h1, fun k => by rw [← hs k]; exact h2 k⟩
section
variable {P : Program} {w w0 : World} {F0 F : Mem} {L : Own} {ρ : Operand → Value} {ty : TypeId}
theorem HS.ownAt' {k : Nat} {e : Option Nat × Obj} (h : HS w0 F0 w F L) (hk : L[k]? = some e) : ∀ b o, e = (some b, o) → w.heap[b]? = some o := fun b o he => h.ownAt (by rw [hk, he])
theorem run_lookPM1 {mt k vt : TypeId} {m x : Operand} {b : Nat} {S : List UInt8 → Option Value} {e : Option Nat × Obj} {t : List UInt8} {v : Value} (hm : ρ m = .map (some b)) (hx : ρ x = .string ⟨t.toArray⟩) (hu : P.underlying mt = some (.map k vt)) (hk : P.underlying k = some .string)
  (hw : ∀ b o, e = (some b, o) → w.heap[b]? = some o) (hp : PMap b S e) (hS : S t = some v) : (execB ρ (.lookup mt m x true) ty).run P w = .ok (.value (.tuple #[v, .bool true])) w := by
 obtain ⟨es, clk, rfl, h2⟩ := hp
 have hb := hw b _ rfl
 obtain ⟨r, h3, h4⟩ := h2 t
 rw [hS] at h4
 cases r with
 | none => cases h4
 | some p =>
  obtain ⟨i, v'⟩ := p
  simp only [Option.map_some, Option.some.injEq] at h4
  subst h4
  have e : execB ρ (.lookup mt m x true) ty = (do pure (Next.value (← Instr.lookup mt (ρ m) (ρ x) true))) := rfl
  rw [e, hm, hx]
  simp [Instr.lookup, run_underlying hu, MapKept.run_getObj_map hb, MapKept.run_checkKey hk (k := .string ⟨t.toArray⟩) trivial, MapKept.run_findKey hk h3, Result.andThen]
end
section
variable {P : Program} {n : Nat} {R : Array Oper} {PQ : List PanicEntry → List Deferred → World → Prop} {Post : Fr → World → Prop} {zz fuel : Nat} {ll l' : List Bool} {zd : Bool} {Fs : Mem} {Lc Lz : Own} {w w0 : World} {F0 F : Mem} {L : Own} {f : Fr} {i : Nat} {dst : Option Nat} {ty : TypeId} {g : Option (Nat × Bool)}
theorem DStep.pMake {t : TypeId} (hl : ll.set i true = l') (hzd : l'.toArray.getD zz true = zd) (ho : opq R i = some (dst, .makeMap t none, ty, g)) (hg : gd R f g = true) (hs : HS w0 F0 w F L) (hle : Mem.le Fs F) (hL : ∀ p, p ∈ Lc → p ∈ L) (hLz : zd = false → ∀ p, p ∈ Lz → p ∈ L)
  (kk : ∀ b e w', HS w0 F0 w' F (e :: L) → PMap b (fun _ => none) e → DWP P n R PQ Post zz (DZ Fs Lc Lz) fuel l' (updo f dst (.map (some b))) w') : DStep P n R PQ Post zz (DZ Fs Lc Lz) fuel ll i f w :=
 DStep.val hl hzd ho hg run_makeMap (dz_of (hs.alloc _) hle (fun p hp => List.mem_cons_of_mem _ (hL p hp)) (fun e p hp => List.mem_cons_of_mem _ (hLz e p hp))) (kk _ _ _ (hs.alloc _) (PMap.nil _))
theorem DStep.pIns {mt k vt : TypeId} {m x y : Operand} {b : Nat} {S : List UInt8 → Option Value} {k0 : List UInt8} {v : Value} {e : Option Nat × Obj} (hl : ll.set i true = l') (hzd : l'.toArray.getD zz true = zd) (ho : opq R i = some (none, .insert mt m x y, ty, g)) (hg : gd R f g = true)
  (hm : fev f m = .map (some b)) (hx : fev f x = .string ⟨k0.toArray⟩) (hy : fev f y = v) (hu : P.underlying mt = some (.map k vt)) (hk : P.underlying k = some .string) (hn : S k0 = none)
  (hs : HS w0 F0 w F (e :: L)) (hp : PMap b S e) (hle : Mem.le Fs F) (hL : ∀ p, p ∈ Lc → p ∈ L) (hLz : zd = false → ∀ p, p ∈ Lz → p ∈ L)
  (kk : ∀ e' w', HS w0 F0 w' F (e' :: L) → PMap b (supd S k0 v) e' → DWP P n R PQ Post zz (DZ Fs Lc Lz) fuel l' f w') : DStep P n R PQ Post zz (DZ Fs Lc Lz) fuel ll i f w := by
 obtain ⟨es, clk, rfl, h2⟩ := hp
 have hb := hs.ownAt (k := 0) rfl
 obtain ⟨r, h3, h4⟩ := h2 k0
 rw [hn] at h4
 have hr : r = none := by cases r with | none => rfl | some p => cases h4
 subst hr
 have hs' := hs.put (k := 0) rfl (.map (es.push ⟨.string ⟨k0.toArray⟩, v, clk⟩) (clk + 1))
 have hset : (setObj b (.map (es.push ⟨.string ⟨k0.toArray⟩, v, clk⟩) (clk + 1))).run P w = .ok () (putB w b (.map (es.push ⟨.string ⟨k0.toArray⟩, v, clk⟩) (clk + 1))) := by
  rw [MapKept.run_setObj_map _ hb]; rfl
 refine DStep.unit hl hzd ho hg (w' := putB w b (.map (es.push ⟨.string ⟨k0.toArray⟩, v, clk⟩) (clk + 1))) ?_ (dz_of hs' hle (fun p hp => List.mem_cons_of_mem _ (hL p hp)) (fun e p hp => List.mem_cons_of_mem _ (hLz e p hp))) (kk _ _ hs' (PMap.ins h2 k0 v hn))
 have e : execB (fev f) (.insert mt m x y) ty = (do Instr.mapUpdate mt (fev f m) (fev f x) (fev f y); pure .skip) := rfl
 rw [e, hm, hx, hy]
 simp [Instr.mapUpdate, run_underlying hu, MapKept.run_getObj_map hb, MapKept.run_checkKey hk (k := .string ⟨k0.toArray⟩) trivial, MapKept.run_findKey hk h3, Result.andThen, hset]
end
def listsAt (b : Nat) : List UInt8 → Option Value := fun t => if t = [112, 111, 105, 110, 116, 115] then some (.pointer (some ⟨b, 0, none⟩)) else if t = [109, 117, 108, 116, 105, 112, 108, 105, 101, 114] then some (.pointer (some ⟨b, 1, none⟩)) else if t = [112, 101, 110, 97, 108, 116, 121] then some (.pointer (some ⟨b, 2, none⟩)) else none
section
variable {b : Nat} {t : List UInt8}
theorem listsAt_0 (h : (t == ([112, 111, 105, 110, 116, 115] : List UInt8)) = true) : listsAt b t = some (.pointer (some ⟨b, 0, none⟩)) := by
 have := eq_of_beq h; subst this; rfl
end
theorem part_lists {wb w : World} {Fb F : Mem} {L : Own} {f : Fr} {bp : Nat} {Q : Exit → Fr → World → Prop} (hs0 : HS wb Fb w F L) (h1 : f 1 = .pointer (some ⟨bp, 0, none⟩))
  (k : ∀ (f' : Fr) (w' : World) (e : Option Nat × Obj) (b : Nat), HS wb Fb w' F (e :: L) → PMap b (listsAt bp) e → f' 6 = .map (some b) → (f'.d = f.d ∧ f' 0 = f 0 ∧ f' 4 = f 4) → Q .normal f' w') : CWP Tryz.prog none 114 (cs1 (cs2 (cs2 (bodyOf Tryz.f81)))) Q f w := by
 refine CWP.regionD (by kernel_rfl) (by kernel_rfl) (by kernel_rfl) (by kernel_rfl) (z := 15) (F := F) (Lc := []) (Lz := []) (l := [false, false, false, false, false, false, false, false, false, false, false, false, false, false, false]) (fuel := 15) (by kernel_rfl) (by kernel_rfl) hs0 (by simp) (by simp) (fun f' w' => ∃ e b, HS wb Fb w' F (e :: L) ∧ PMap b (listsAt bp) e ∧ f' 6 = .map (some b) ∧ f'.d = f.d ∧ f' 0 = f 0 ∧ f' 4 = f 4) (fun wd hw => ?_) ?_
 ·refine DWP.take (i := 1) (v := (.pointer (some ⟨bp, 0, none⟩))) (zd := true) (dst := (some 49)) (ty := 102) (g := none) (by kernel_rfl) (by kernel_rfl) (by kernel_rfl) (by kernel_rfl) (by kernel_rfl) rfl (fun wq hq => (run_move (x := .tmp 1) (v := (.pointer (some ⟨bp, 0, none⟩))) h1)) (l' := [false, true, false, false, false, false, false, false, false, false, false, false, false, false, false]) (by kernel_rfl) ?_
  refine DWP.take (i := 2) (v := (.pointer (some ⟨bp, 0, none⟩))) (zd := true) (dst := (some 50)) (ty := 0) (g := none) (by kernel_rfl) (by kernel_rfl) (by kernel_rfl) (by kernel_rfl) (by kernel_rfl) rfl (fun wq hq => (run_nilCheck (x := .tmp 49) (a := ⟨bp, 0, none⟩) rfl)) (l' := [false, true, true, false, false, false, false, false, false, false, false, false, false, false, false]) (by kernel_rfl) ?_
  refine DWP.take (i := 3) (v := (.pointer (some ⟨bp, 0, none⟩))) (zd := true) (dst := (some 51)) (ty := 0) (g := none) (by kernel_rfl) (by kernel_rfl) (by kernel_rfl) (by kernel_rfl) (by kernel_rfl) rfl (fun wq hq => (run_fieldAddr (s := 26) (x := .tmp 50) (i := 0) (o := 0) (k := 1) (b := bp) (o0 := 0) rfl (by kernel_rfl) rfl (o1 := 0) rfl)) (l' := [false, true, true, true, false, false, false, false, false, false, false, false, false, false, false]) (by kernel_rfl) ?_
  refine DWP.take (i := 5) (v := (.pointer (some ⟨bp, 0, none⟩))) (zd := true) (dst := (some 52)) (ty := 102) (g := none) (by kernel_rfl) (by kernel_rfl) (by kernel_rfl) (by kernel_rfl) (by kernel_rfl) rfl (fun wq hq => (run_move (x := .tmp 1) (v := (.pointer (some ⟨bp, 0, none⟩))) h1)) (l' := [false, true, true, true, false, true, false, false, false, false, false, false, false, false, false]) (by kernel_rfl) ?_
  refine DWP.take (i := 6) (v := (.pointer (some ⟨bp, 0, none⟩))) (zd := true) (dst := (some 53)) (ty := 0) (g := none) (by kernel_rfl) (by kernel_rfl) (by kernel_rfl) (by kernel_rfl) (by kernel_rfl) rfl (fun wq hq => (run_nilCheck (x := .tmp 52) (a := ⟨bp, 0, none⟩) rfl)) (l' := [false, true, true, true, false, true, true, false, false, false, false, false, false, false, false]) (by kernel_rfl) ?_
  refine DWP.take (i := 7) (v := (.pointer (some ⟨bp, 1, none⟩))) (zd := true) (dst := (some 54)) (ty := 0) (g := none) (by kernel_rfl) (by kernel_rfl) (by kernel_rfl) (by kernel_rfl) (by kernel_rfl) rfl (fun wq hq => (run_fieldAddr (s := 26) (x := .tmp 53) (i := 1) (o := 1) (k := 1) (b := bp) (o0 := 0) rfl (by kernel_rfl) rfl (o1 := 1) rfl)) (l' := [false, true, true, true, false, true, true, true, false, false, false, false, false, false, false]) (by kernel_rfl) ?_
  refine DWP.take (i := 9) (v := (.pointer (some ⟨bp, 0, none⟩))) (zd := true) (dst := (some 55)) (ty := 102) (g := none) (by kernel_rfl) (by kernel_rfl) (by kernel_rfl) (by kernel_rfl) (by kernel_rfl) rfl (fun wq hq => (run_move (x := .tmp 1) (v := (.pointer (some ⟨bp, 0, none⟩))) h1)) (l' := [false, true, true, true, false, true, true, true, false, true, false, false, false, false, false]) (by kernel_rfl) ?_
  refine DWP.take (i := 10) (v := (.pointer (some ⟨bp, 0, none⟩))) (zd := true) (dst := (some 56)) (ty := 0) (g := none) (by kernel_rfl) (by kernel_rfl) (by kernel_rfl) (by kernel_rfl) (by kernel_rfl) rfl (fun wq hq => (run_nilCheck (x := .tmp 55) (a := ⟨bp, 0, none⟩) rfl)) (l' := [false, true, true, true, false, true, true, true, false, true, true, false, false, false, false]) (by kernel_rfl) ?_
  refine DWP.take (i := 11) (v := (.pointer (some ⟨bp, 2, none⟩))) (zd := true) (dst := (some 57)) (ty := 0) (g := none) (by kernel_rfl) (by kernel_rfl) (by kernel_rfl) (by kernel_rfl) (by kernel_rfl) rfl (fun wq hq => (run_fieldAddr (s := 26) (x := .tmp 56) (i := 2) (o := 2) (k := 1) (b := bp) (o0 := 0) rfl (by kernel_rfl) rfl (o1 := 2) rfl)) (l' := [false, true, true, true, false, true, true, true, false, true, true, true, false, false, false]) (by kernel_rfl) ?_
  refine DWP.one (i := 0) (by kernel_rfl) ?_
  refine DStep.pMake (l' := [true, true, true, true, false, true, true, true, false, true, true, true, false, false, false]) (zd := true) (by kernel_rfl) (by kernel_rfl) (dst := some 48) (ty := 167) (g := none) (by kernel_rfl) rfl (t := 167) hw (Mem.le.refl _) (by simp) (fun e => by cases e) (fun b e0 w0 hs1 hp0 => ?_)
  refine DWP.three (i := 4) (j := 8) (k := 12) (by kernel_rfl) ?_ ?_ ?_
  ·
   refine DStep.pIns (l' := [true, true, true, true, true, true, true, true, false, true, true, true, false, false, false]) (zd := true) (by kernel_rfl) (by kernel_rfl) (ty := 0) (g := none) (by kernel_rfl) rfl (mt := 167) (k := 9) (vt := 166) (m := .tmp 48) (x := .const (.string ⟨([112, 111, 105, 110, 116, 115] : List UInt8).toArray⟩)) (y := .tmp 51) (k0 := [112, 111, 105, 110, 116, 115]) (v := .pointer (some ⟨bp, 0, none⟩)) rfl rfl rfl (by kernel_rfl) (by kernel_rfl) (by simp [supd]) hs1 hp0 (Mem.le.refl _) (by simp) (fun e => by cases e) (fun e11 w11 hs11 hp11 => ?_)
   refine DWP.two (i := 8) (j := 12) (by kernel_rfl) ?_ ?_
   ·
    refine DStep.pIns (l' := [true, true, true, true, true, true, true, true, true, true, true, true, false, false, false]) (zd := true) (by kernel_rfl) (by kernel_rfl) (ty := 0) (g := none) (by kernel_rfl) rfl (mt := 167) (k := 9) (vt := 166) (m := .tmp 48) (x := .const (.string ⟨([109, 117, 108, 116, 105, 112, 108, 105, 101, 114] : List UInt8).toArray⟩)) (y := .tmp 54) (k0 := [109, 117, 108, 116, 105, 112, 108, 105, 101, 114]) (v := .pointer (some ⟨bp, 1, none⟩)) rfl rfl rfl (by kernel_rfl) (by kernel_rfl) (by simp [supd]) hs11 hp11 (Mem.le.refl _) (by simp) (fun e => by cases e) (fun e12 w12 hs12 hp12 => ?_)
    refine DWP.one (i := 12) (by kernel_rfl) ?_
    refine DStep.pIns (l' := [true, true, true, true, true, true, true, true, true, true, true, true, true, false, false]) (zd := true) (by kernel_rfl) (by kernel_rfl) (ty := 0) (g := none) (by kernel_rfl) rfl (mt := 167) (k := 9) (vt := 166) (m := .tmp 48) (x := .const (.string ⟨([112, 101, 110, 97, 108, 116, 121] : List UInt8).toArray⟩)) (y := .tmp 57) (k0 := [112, 101, 110, 97, 108, 116, 121]) (v := .pointer (some ⟨bp, 2, none⟩)) rfl rfl rfl (by kernel_rfl) (by kernel_rfl) (by simp [supd]) hs12 hp12 (Mem.le.refl _) (by simp) (fun e => by cases e) (fun e13 w13 hs13 hp13 => ?_)
    refine DWP.one (i := 13) (by kernel_rfl) ?_
    refine DStep.val (l' := [true, true, true, true, true, true, true, true, true, true, true, true, true, true, false]) (zd := true) (by kernel_rfl) (by kernel_rfl) (dst := some 58) (ty := 167) (g := none) (by kernel_rfl) rfl (run_move (x := .tmp 48) (v := .map (some b)) rfl) (dz_of hs13 (Mem.le.refl _) (by simp) (fun e => by cases e)) ?_
    refine DWP.one (i := 14) (by kernel_rfl) ?_
    refine DStep.val (l' := [true, true, true, true, true, true, true, true, true, true, true, true, true, true, true]) (zd := true) (by kernel_rfl) (by kernel_rfl) (dst := some 6) (ty := 167) (g := none) (by kernel_rfl) rfl (run_assign (x := .tmp 58) (v := .map (some b)) rfl) (dz_of hs13 (Mem.le.refl _) (by simp) (fun e => by cases e)) ?_
    exact DWP.done (by kernel_rfl) ⟨_, b, hs13, hp13.congr (fun k => by by_cases a : k = [112, 111, 105, 110, 116, 115] <;> by_cases b : k = [109, 117, 108, 116, 105, 112, 108, 105, 101, 114] <;> by_cases c : k = [112, 101, 110, 97, 108, 116, 121] <;> simp_all [supd, listsAt]), rfl, rfl, rfl, rfl⟩
   ·
    refine DStep.pIns (l' := [true, true, true, true, true, true, true, true, false, true, true, true, true, false, false]) (zd := true) (by kernel_rfl) (by kernel_rfl) (ty := 0) (g := none) (by kernel_rfl) rfl (mt := 167) (k := 9) (vt := 166) (m := .tmp 48) (x := .const (.string ⟨([112, 101, 110, 97, 108, 116, 121] : List UInt8).toArray⟩)) (y := .tmp 57) (k0 := [112, 101, 110, 97, 108, 116, 121]) (v := .pointer (some ⟨bp, 2, none⟩)) rfl rfl rfl (by kernel_rfl) (by kernel_rfl) (by simp [supd]) hs11 hp11 (Mem.le.refl _) (by simp) (fun e => by cases e) (fun e14 w14 hs14 hp14 => ?_)
    refine DWP.one (i := 8) (by kernel_rfl) ?_
    refine DStep.pIns (l' := [true, true, true, true, true, true, true, true, true, true, true, true, true, false, false]) (zd := true) (by kernel_rfl) (by kernel_rfl) (ty := 0) (g := none) (by kernel_rfl) rfl (mt := 167) (k := 9) (vt := 166) (m := .tmp 48) (x := .const (.string ⟨([109, 117, 108, 116, 105, 112, 108, 105, 101, 114] : List UInt8).toArray⟩)) (y := .tmp 54) (k0 := [109, 117, 108, 116, 105, 112, 108, 105, 101, 114]) (v := .pointer (some ⟨bp, 1, none⟩)) rfl rfl rfl (by kernel_rfl) (by kernel_rfl) (by simp [supd]) hs14 hp14 (Mem.le.refl _) (by simp) (fun e => by cases e) (fun e15 w15 hs15 hp15 => ?_)
    refine DWP.one (i := 13) (by kernel_rfl) ?_
    refine DStep.val (l' := [true, true, true, true, true, true, true, true, true, true, true, true, true, true, false]) (zd := true) (by kernel_rfl) (by kernel_rfl) (dst := some 58) (ty := 167) (g := none) (by kernel_rfl) rfl (run_move (x := .tmp 48) (v := .map (some b)) rfl) (dz_of hs15 (Mem.le.refl _) (by simp) (fun e => by cases e)) ?_
    refine DWP.one (i := 14) (by kernel_rfl) ?_
    refine DStep.val (l' := [true, true, true, true, true, true, true, true, true, true, true, true, true, true, true]) (zd := true) (by kernel_rfl) (by kernel_rfl) (dst := some 6) (ty := 167) (g := none) (by kernel_rfl) rfl (run_assign (x := .tmp 58) (v := .map (some b)) rfl) (dz_of hs15 (Mem.le.refl _) (by simp) (fun e => by cases e)) ?_
    exact DWP.done (by kernel_rfl) ⟨_, b, hs15, hp15.congr (fun k => by by_cases a : k = [112, 111, 105, 110, 116, 115] <;> by_cases b : k = [109, 117, 108, 116, 105, 112, 108, 105, 101, 114] <;> by_cases c : k = [112, 101, 110, 97, 108, 116, 121] <;> simp_all [supd, listsAt]), rfl, rfl, rfl, rfl⟩
  ·
   refine DStep.pIns (l' := [true, true, true, true, false, true, true, true, true, true, true, true, false, false, false]) (zd := true) (by kernel_rfl) (by kernel_rfl) (ty := 0) (g := none) (by kernel_rfl) rfl (mt := 167) (k := 9) (vt := 166) (m := .tmp 48) (x := .const (.string ⟨([109, 117, 108, 116, 105, 112, 108, 105, 101, 114] : List UInt8).toArray⟩)) (y := .tmp 54) (k0 := [109, 117, 108, 116, 105, 112, 108, 105, 101, 114]) (v := .pointer (some ⟨bp, 1, none⟩)) rfl rfl rfl (by kernel_rfl) (by kernel_rfl) (by simp [supd]) hs1 hp0 (Mem.le.refl _) (by simp) (fun e => by cases e) (fun e16 w16 hs16 hp16 => ?_)
   refine DWP.two (i := 4) (j := 12) (by kernel_rfl) ?_ ?_
   ·
    refine DStep.pIns (l' := [true, true, true, true, true, true, true, true, true, true, true, true, false, false, false]) (zd := true) (by kernel_rfl) (by kernel_rfl) (ty := 0) (g := none) (by kernel_rfl) rfl (mt := 167) (k := 9) (vt := 166) (m := .tmp 48) (x := .const (.string ⟨([112, 111, 105, 110, 116, 115] : List UInt8).toArray⟩)) (y := .tmp 51) (k0 := [112, 111, 105, 110, 116, 115]) (v := .pointer (some ⟨bp, 0, none⟩)) rfl rfl rfl (by kernel_rfl) (by kernel_rfl) (by simp [supd]) hs16 hp16 (Mem.le.refl _) (by simp) (fun e => by cases e) (fun e17 w17 hs17 hp17 => ?_)
    refine DWP.one (i := 12) (by kernel_rfl) ?_
    refine DStep.pIns (l' := [true, true, true, true, true, true, true, true, true, true, true, true, true, false, false]) (zd := true) (by kernel_rfl) (by kernel_rfl) (ty := 0) (g := none) (by kernel_rfl) rfl (mt := 167) (k := 9) (vt := 166) (m := .tmp 48) (x := .const (.string ⟨([112, 101, 110, 97, 108, 116, 121] : List UInt8).toArray⟩)) (y := .tmp 57) (k0 := [112, 101, 110, 97, 108, 116, 121]) (v := .pointer (some ⟨bp, 2, none⟩)) rfl rfl rfl (by kernel_rfl) (by kernel_rfl) (by simp [supd]) hs17 hp17 (Mem.le.refl _) (by simp) (fun e => by cases e) (fun e18 w18 hs18 hp18 => ?_)
    refine DWP.one (i := 13) (by kernel_rfl) ?_
    refine DStep.val (l' := [true, true, true, true, true, true, true, true, true, true, true, true, true, true, false]) (zd := true) (by kernel_rfl) (by kernel_rfl) (dst := some 58) (ty := 167) (g := none) (by kernel_rfl) rfl (run_move (x := .tmp 48) (v := .map (some b)) rfl) (dz_of hs18 (Mem.le.refl _) (by simp) (fun e => by cases e)) ?_
    refine DWP.one (i := 14) (by kernel_rfl) ?_
    refine DStep.val (l' := [true, true, true, true, true, true, true, true, true, true, true, true, true, true, true]) (zd := true) (by kernel_rfl) (by kernel_rfl) (dst := some 6) (ty := 167) (g := none) (by kernel_rfl) rfl (run_assign (x := .tmp 58) (v := .map (some b)) rfl) (dz_of hs18 (Mem.le.refl _) (by simp) (fun e => by cases e)) ?_
    exact DWP.done (by kernel_rfl) ⟨_, b, hs18, hp18.congr (fun k => by by_cases a : k = [112, 111, 105, 110, 116, 115] <;> by_cases b : k = [109, 117, 108, 116, 105, 112, 108, 105, 101, 114] <;> by_cases c : k = [112, 101, 110, 97, 108, 116, 121] <;> simp_all [supd, listsAt]), rfl, rfl, rfl, rfl⟩
   ·
    refine DStep.pIns (l' := [true, true, true, true, false, true, true, true, true, true, true, true, true, false, false]) (zd := true) (by kernel_rfl) (by kernel_rfl) (ty := 0) (g := none) (by kernel_rfl) rfl (mt := 167) (k := 9) (vt := 166) (m := .tmp 48) (x := .const (.string ⟨([112, 101, 110, 97, 108, 116, 121] : List UInt8).toArray⟩)) (y := .tmp 57) (k0 := [112, 101, 110, 97, 108, 116, 121]) (v := .pointer (some ⟨bp, 2, none⟩)) rfl rfl rfl (by kernel_rfl) (by kernel_rfl) (by simp [supd]) hs16 hp16 (Mem.le.refl _) (by simp) (fun e => by cases e) (fun e19 w19 hs19 hp19 => ?_)
    refine DWP.one (i := 4) (by kernel_rfl) ?_
    refine DStep.pIns (l' := [true, true, true, true, true, true, true, true, true, true, true, true, true, false, false]) (zd := true) (by kernel_rfl) (by kernel_rfl) (ty := 0) (g := none) (by kernel_rfl) rfl (mt := 167) (k := 9) (vt := 166) (m := .tmp 48) (x := .const (.string ⟨([112, 111, 105, 110, 116, 115] : List UInt8).toArray⟩)) (y := .tmp 51) (k0 := [112, 111, 105, 110, 116, 115]) (v := .pointer (some ⟨bp, 0, none⟩)) rfl rfl rfl (by kernel_rfl) (by kernel_rfl) (by simp [supd]) hs19 hp19 (Mem.le.refl _) (by simp) (fun e => by cases e) (fun e20 w20 hs20 hp20 => ?_)
    refine DWP.one (i := 13) (by kernel_rfl) ?_
    refine DStep.val (l' := [true, true, true, true, true, true, true, true, true, true, true, true, true, true, false]) (zd := true) (by kernel_rfl) (by kernel_rfl) (dst := some 58) (ty := 167) (g := none) (by kernel_rfl) rfl (run_move (x := .tmp 48) (v := .map (some b)) rfl) (dz_of hs20 (Mem.le.refl _) (by simp) (fun e => by cases e)) ?_
    refine DWP.one (i := 14) (by kernel_rfl) ?_
    refine DStep.val (l' := [true, true, true, true, true, true, true, true, true, true, true, true, true, true, true]) (zd := true) (by kernel_rfl) (by kernel_rfl) (dst := some 6) (ty := 167) (g := none) (by kernel_rfl) rfl (run_assign (x := .tmp 58) (v := .map (some b)) rfl) (dz_of hs20 (Mem.le.refl _) (by simp) (fun e => by cases e)) ?_
    exact DWP.done (by kernel_rfl) ⟨_, b, hs20, hp20.congr (fun k => by by_cases a : k = [112, 111, 105, 110, 116, 115] <;> by_cases b : k = [109, 117, 108, 116, 105, 112, 108, 105, 101, 114] <;> by_cases c : k = [112, 101, 110, 97, 108, 116, 121] <;> simp_all [supd, listsAt]), rfl, rfl, rfl, rfl⟩
  ·
   refine DStep.pIns (l' := [true, true, true, true, false, true, true, true, false, true, true, true, true, false, false]) (zd := true) (by kernel_rfl) (by kernel_rfl) (ty := 0) (g := none) (by kernel_rfl) rfl (mt := 167) (k := 9) (vt := 166) (m := .tmp 48) (x := .const (.string ⟨([112, 101, 110, 97, 108, 116, 121] : List UInt8).toArray⟩)) (y := .tmp 57) (k0 := [112, 101, 110, 97, 108, 116, 121]) (v := .pointer (some ⟨bp, 2, none⟩)) rfl rfl rfl (by kernel_rfl) (by kernel_rfl) (by simp [supd]) hs1 hp0 (Mem.le.refl _) (by simp) (fun e => by cases e) (fun e21 w21 hs21 hp21 => ?_)
   refine DWP.two (i := 4) (j := 8) (by kernel_rfl) ?_ ?_
   ·
    refine DStep.pIns (l' := [true, true, true, true, true, true, true, true, false, true, true, true, true, false, false]) (zd := true) (by kernel_rfl) (by kernel_rfl) (ty := 0) (g := none) (by kernel_rfl) rfl (mt := 167) (k := 9) (vt := 166) (m := .tmp 48) (x := .const (.string ⟨([112, 111, 105, 110, 116, 115] : List UInt8).toArray⟩)) (y := .tmp 51) (k0 := [112, 111, 105, 110, 116, 115]) (v := .pointer (some ⟨bp, 0, none⟩)) rfl rfl rfl (by kernel_rfl) (by kernel_rfl) (by simp [supd]) hs21 hp21 (Mem.le.refl _) (by simp) (fun e => by cases e) (fun e22 w22 hs22 hp22 => ?_)
    refine DWP.one (i := 8) (by kernel_rfl) ?_
    refine DStep.pIns (l' := [true, true, true, true, true, true, true, true, true, true, true, true, true, false, false]) (zd := true) (by kernel_rfl) (by kernel_rfl) (ty := 0) (g := none) (by kernel_rfl) rfl (mt := 167) (k := 9) (vt := 166) (m := .tmp 48) (x := .const (.string ⟨([109, 117, 108, 116, 105, 112, 108, 105, 101, 114] : List UInt8).toArray⟩)) (y := .tmp 54) (k0 := [109, 117, 108, 116, 105, 112, 108, 105, 101, 114]) (v := .pointer (some ⟨bp, 1, none⟩)) rfl rfl rfl (by kernel_rfl) (by kernel_rfl) (by simp [supd]) hs22 hp22 (Mem.le.refl _) (by simp) (fun e => by cases e) (fun e23 w23 hs23 hp23 => ?_)
    refine DWP.one (i := 13) (by kernel_rfl) ?_
    refine DStep.val (l' := [true, true, true, true, true, true, true, true, true, true, true, true, true, true, false]) (zd := true) (by kernel_rfl) (by kernel_rfl) (dst := some 58) (ty := 167) (g := none) (by kernel_rfl) rfl (run_move (x := .tmp 48) (v := .map (some b)) rfl) (dz_of hs23 (Mem.le.refl _) (by simp) (fun e => by cases e)) ?_
    refine DWP.one (i := 14) (by kernel_rfl) ?_
    refine DStep.val (l' := [true, true, true, true, true, true, true, true, true, true, true, true, true, true, true]) (zd := true) (by kernel_rfl) (by kernel_rfl) (dst := some 6) (ty := 167) (g := none) (by kernel_rfl) rfl (run_assign (x := .tmp 58) (v := .map (some b)) rfl) (dz_of hs23 (Mem.le.refl _) (by simp) (fun e => by cases e)) ?_
    exact DWP.done (by kernel_rfl) ⟨_, b, hs23, hp23.congr (fun k => by by_cases a : k = [112, 111, 105, 110, 116, 115] <;> by_cases b : k = [109, 117, 108, 116, 105, 112, 108, 105, 101, 114] <;> by_cases c : k = [112, 101, 110, 97, 108, 116, 121] <;> simp_all [supd, listsAt]), rfl, rfl, rfl, rfl⟩
   ·
    refine DStep.pIns (l' := [true, true, true, true, false, true, true, true, true, true, true, true, true, false, false]) (zd := true) (by kernel_rfl) (by kernel_rfl) (ty := 0) (g := none) (by kernel_rfl) rfl (mt := 167) (k := 9) (vt := 166) (m := .tmp 48) (x := .const (.string ⟨([109, 117, 108, 116, 105, 112, 108, 105, 101, 114] : List UInt8).toArray⟩)) (y := .tmp 54) (k0 := [109, 117, 108, 116, 105, 112, 108, 105, 101, 114]) (v := .pointer (some ⟨bp, 1, none⟩)) rfl rfl rfl (by kernel_rfl) (by kernel_rfl) (by simp [supd]) hs21 hp21 (Mem.le.refl _) (by simp) (fun e => by cases e) (fun e24 w24 hs24 hp24 => ?_)
    refine DWP.one (i := 4) (by kernel_rfl) ?_
    refine DStep.pIns (l' := [true, true, true, true, true, true, true, true, true, true, true, true, true, false, false]) (zd := true) (by kernel_rfl) (by kernel_rfl) (ty := 0) (g := none) (by kernel_rfl) rfl (mt := 167) (k := 9) (vt := 166) (m := .tmp 48) (x := .const (.string ⟨([112, 111, 105, 110, 116, 115] : List UInt8).toArray⟩)) (y := .tmp 51) (k0 := [112, 111, 105, 110, 116, 115]) (v := .pointer (some ⟨bp, 0, none⟩)) rfl rfl rfl (by kernel_rfl) (by kernel_rfl) (by simp [supd]) hs24 hp24 (Mem.le.refl _) (by simp) (fun e => by cases e) (fun e25 w25 hs25 hp25 => ?_)
    refine DWP.one (i := 13) (by kernel_rfl) ?_
    refine DStep.val (l' := [true, true, true, true, true, true, true, true, true, true, true, true, true, true, false]) (zd := true) (by kernel_rfl) (by kernel_rfl) (dst := some 58) (ty := 167) (g := none) (by kernel_rfl) rfl (run_move (x := .tmp 48) (v := .map (some b)) rfl) (dz_of hs25 (Mem.le.refl _) (by simp) (fun e => by cases e)) ?_
    refine DWP.one (i := 14) (by kernel_rfl) ?_
    refine DStep.val (l' := [true, true, true, true, true, true, true, true, true, true, true, true, true, true, true]) (zd := true) (by kernel_rfl) (by kernel_rfl) (dst := some 6) (ty := 167) (g := none) (by kernel_rfl) rfl (run_assign (x := .tmp 58) (v := .map (some b)) rfl) (dz_of hs25 (Mem.le.refl _) (by simp) (fun e => by cases e)) ?_
    exact DWP.done (by kernel_rfl) ⟨_, b, hs25, hp25.congr (fun k => by by_cases a : k = [112, 111, 105, 110, 116, 115] <;> by_cases b : k = [109, 117, 108, 116, 105, 112, 108, 105, 101, 114] <;> by_cases c : k = [112, 101, 110, 97, 108, 116, 121] <;> simp_all [supd, listsAt]), rfl, rfl, rfl, rfl⟩
 ·rintro f' w' ⟨e, b, h1, h2, h3, h4, h5⟩
  exact k f' w' e b h1 h2 h3 ⟨h4, h5⟩
end Go.Proofs.YtaihlcdkcampbaaGreatDoor
namespace Go.Proofs.YtaihlcdkcampbaaGreatDoor
open Go.Proofs
def rules_parser_part (N : Nat) (x0 : rules_parser) (x1 : Book) : Option (rules_bad ⊕ (rules_parser × Book)) :=
 ((idx x0.l_ 0).bind fun x21 => ((rules_parser_accept N x0 ([114, 101, 112, 101, 97, 116] : List UInt8)).bind fun r41 => (bif r41.2 then ((rules_parser_expect N r41.1 ([58] : List UInt8)).bind fun r51 => sk r51 (fun b242 => some (.inl b242)) (fun r54 => ((rules_parser_placed N r54).bind fun r61 => sk r61 (fun b235 => some (.inl b235)) (fun r64 => ((rules_parser_ended N r64.1).bind fun r77 => sk r77 (fun b228 => some (.inl b228)) (fun r80 => (((rules_room_api_Expr N r64.1 x1.Repeats x21.at_).bind fun r100 => sk r100 (fun b110 => some (.inl b110)) (fun r103 => some (.inr ()))).bind fun j92 => sk j92 (fun b222 => some (.inl b222)) (fun J99 => ((rules_parser_check N r64.1 r64.2 1).bind fun r118 => sk r118 (fun b215 => some (.inl b215)) (fun r121 => (((apnd x1.Repeats [({ Op := 0, Value := 0, Kids := ([] : List Expr) } : Expr)]).bind fun r142 => ((idx r142 (x1.Repeats.length : Int)).bind fun x151 => some (r142.set ((x1.Repeats.length : Int) : Int).toNat (r64.2.Expr)))).bind fun j133 => some (.inr (r64.1, ({ Points := x1.Points, Multipliers := x1.Multipliers, Penalties := x1.Penalties, Repeats := j133 } : Book)))))))))))))) else (bif (x21.text_ == ([112, 111, 105, 110, 116, 115] : List UInt8)) then ((rules_parser_accept N r41.1 x21.text_).bind fun r264 => (bif (!r264.2) then ((rules_parser_fail N r264.1 60 x21.at_).bind fun r274 => sk r274 (fun b279 => some (.inl b279)) (fun r277 => none)) else ((rules_parser_expect N r264.1 ([58] : List UInt8)).bind fun r286 => sk r286 (fun b489 => some (.inl b489)) (fun r289 => ((rules_parser_placed N r289).bind fun r296 => sk r296 (fun b482 => some (.inl b482)) (fun r299 => ((rules_parser_expect N r299.1 ([61, 62] : List UInt8)).bind fun r319 => sk r319 (fun b475 => some (.inl b475)) (fun r322 => ((rules_parser_placed N r322).bind fun r329 => sk r329 (fun b468 => some (.inl b468)) (fun r332 => ((rules_parser_ended N r332.1).bind fun r354 => sk r354 (fun b461 => some (.inl b461)) (fun r357 => (((rules_room_api_Clause N r332.1 x1.Points x21.at_).bind fun r378 => sk r378 (fun b388 => some (.inl b388)) (fun r381 => some (.inr ()))).bind fun j369 => sk j369 (fun b455 => some (.inl b455)) (fun J377 => ((rules_parser_check N r332.1 r299.2 2).bind fun r396 => sk r396 (fun b448 => some (.inl b448)) (fun r399 => ((rules_parser_check N r332.1 r332.2 1).bind fun r406 => sk r406 (fun b441 => some (.inl b441)) (fun r409 => (((apnd x1.Points [({ When := r299.2.Expr, Then := r332.2.Expr } : Clause)]).bind fun r430 => some r430).bind fun j421 => some (.inr (r332.1, ({ Points := j421, Multipliers := x1.Multipliers, Penalties := x1.Penalties, Repeats := x1.Repeats } : Book)))))))))))))))))))))) else none))))
theorem co_rules_parser_part : CallOk Tryz.prog 81 := fun _ _ => by kernel_rfl
theorem c_rules_parser_part (N : Nat) {wb w0 : World} {Fb F0 : Mem} {Lf : Own} (hG : Glob F0) (bp0 : Nat) (x0 : rules_parser) (a0_0 : Option Addr) (n0_0 : Nat) (hb0_0 : LC x0.l_.length n0_0) (hs0_0 : SlA trules_token F0 a0_0 x0.l_) (bp1 : Nat) (x1 : Book) (a1_0 : Option Addr) (n1_0 : Nat) (e1_0 : Option Nat × Obj) (a1_1 : Option Addr) (n1_1 : Nat) (e1_1 : Option Nat × Obj) (a1_2 : Option Addr) (n1_2 : Nat) (e1_2 : Option Nat × Obj) (a1_3 : Option Addr) (n1_3 : Nat) (e1_3 : Option Nat × Obj) (hr1_0 : RowR tClause 56 F0 a1_0 n1_0 x1.Points e1_0) (hr1_1 : RowR tClause 56 F0 a1_1 n1_1 x1.Multipliers e1_1) (hr1_2 : RowR tClause 56 F0 a1_2 n1_2 x1.Penalties e1_2) (hr1_3 : RowR tExpr 33 F0 a1_3 n1_3 x1.Repeats e1_3) (hs0 : HS wb Fb w0 F0 ((sb bp0 (krules_parser x0 a0_0 n0_0) 100) :: (sb bp1 (kBook x1 a1_0 n1_0 a1_1 n1_1 a1_2 n1_2 a1_3 n1_3) 26) :: e1_0 :: e1_1 :: e1_2 :: e1_3 :: Lf)) (r : (rules_bad ⊕ (rules_parser × Book))) (h : rules_parser_part N x0 x1 = some r) :
  Calls Tryz.prog 81 ([(pt bp0 0), (pt bp1 0)] : List Value).toArray w0 (BRetP wb Fb F0 Lf r (fun b => (.iface 158 (.agg (krules_bad b)))) fun a F' v L' => ∃ (aq0_0 : Option Addr) (nq0_0 : Nat) (aq1_0 : Option Addr) (nq1_0 : Nat) (eq1_0 : Option Nat × Obj) (aq1_1 : Option Addr) (nq1_1 : Nat) (eq1_1 : Option Nat × Obj) (aq1_2 : Option Addr) (nq1_2 : Nat) (eq1_2 : Option Nat × Obj) (aq1_3 : Option Addr) (nq1_3 : Nat) (eq1_3 : Option Nat × Obj), v = (.tuple #[]) ∧ L' = (sb bp0 (krules_parser a.1 aq0_0 nq0_0) 100) :: (sb bp1 (kBook a.2 aq1_0 nq1_0 aq1_1 nq1_1 aq1_2 nq1_2 aq1_3 nq1_3) 26) :: eq1_0 :: eq1_1 :: eq1_2 :: eq1_3 :: Lf ∧ LC a.1.l_.length nq0_0 ∧ SlA trules_token F' aq0_0 a.1.l_ ∧ RowR tClause 56 F' aq1_0 nq1_0 a.2.Points eq1_0 ∧ RowR tClause 56 F' aq1_1 nq1_1 a.2.Multipliers eq1_1 ∧ RowR tClause 56 F' aq1_2 nq1_2 a.2.Penalties eq1_2 ∧ RowR tExpr 33 F' aq1_3 nq1_3 a.2.Repeats eq1_3) := by
 refine Go 114 Tryz.func81 ?_
 refine Sq (Rg [0, 1, 2, 3, 4, 5, 6, 7] ?_)
 refine Vs 3 ?_
 refine Ld hs0.at0 ?_
 obtain ⟨x21, hx22, h24⟩ := bind_some h
 obtain ⟨hi23, hx22'⟩ := idx_spec hx22
 obtain ⟨b25, o26, C27, E28, fz29, rfl, hF31, hE32⟩ := SlA.open hs0_0 hx22'
 have hc34 := hE32 _ _ hx22'
 refine Ix hi23 ?_
 refine Lx 0 (hs0.pers _ _ hF31) hc34 ?_
 refine Al' 97 #[(vi 0), (vi 0), (.string ⟨(([] : List UInt8)).toArray⟩)] hs0 (fun b35 w36 hs37 => ?_)
 refine St0 (krules_token x21) hs37 (fun w38 hs39 => ?_)
 refine Nss ?_
 refine Sq (Rg [0, 1] ?_)
 refine Vs 1 ?_
 have hs40 := hs39.pk6.pk6.pk6.pk6.pk6.pk5
 obtain ⟨r41, hr42, h43⟩ := bind_some h24
 refine CB co_rules_parser_accept (c_rules_parser_accept N bp0 (x0) (some ⟨b25, o26, none⟩) n0_0 hb0_0 hs0_0 (([114, 101, 112, 101, 97, 116] : List UInt8)) hs40.pk6 _ hr42) ?_
 rintro _ F1 w44 _ hs45 le46 ⟨ar41_0_0, nr41_0_0, rfl, rfl, hbr41_0_0, hsr41_0_0⟩
 refine Nt ?_
 refine Cd h43 (fun hb48 h49 => ?_) (fun hb48 h50 => ?_)
 ·refine Sq (Rg [0, 1] ?_)
  refine Vs 1 ?_
  obtain ⟨r51, hr52, h53⟩ := bind_some h49
  refine CP co_rules_parser_expect (c_rules_parser_expect N bp0 (r41.1) ar41_0_0 nr41_0_0 hbr41_0_0 hsr41_0_0 (([58] : List UInt8)) hs45 _ hr52) ?_ ?_
  ·rintro r54 _ F2 w56 _ rfl hs57 le58 ⟨ar54_0_0, nr54_0_0, rfl, rfl, hbr54_0_0, hsr54_0_0⟩
   have h60 := sk_r h53
   refine Nss (Rg [0, 1, 2, 3] ?_)
   refine Vs 1 ?_
   obtain ⟨r61, hr62, h63⟩ := bind_some h60
   refine CP co_rules_parser_placed (c_rules_parser_placed N (hG.mono (le46.trans le58)) bp0 (r54) ar54_0_0 nr54_0_0 hbr54_0_0 hsr54_0_0 hs57 _ hr62) ?_ ?_
   ·rintro r64 _ F3 w66 _ rfl hs67 le68 ⟨ar64_0_0, nr64_0_0, ar64_1_2, nr64_1_2, rfl, rfl, hbr64_0_0, hsr64_0_0, hbr64_1_2, hsr64_1_2⟩
    have h70 := sk_r h63
    refine Al' 113 #[(vi 0), (vi 0), (.slice none ([] : List Expr).length 0), (vi 0)] hs67 (fun b71 w72 hs73 => ?_)
    refine St0 (krules_placed r64.2 ar64_1_2 nr64_1_2) hs73 (fun w74 hs75 => ?_)
    refine Nss (Rg [0, 1] ?_)
    refine Vs 1 ?_
    have hs76 := hs75.pk7.pk7.pk7.pk7.pk7.pk7
    obtain ⟨r77, hr78, h79⟩ := bind_some h70
    refine CP co_rules_parser_ended (c_rules_parser_ended N bp0 (r64.1) ar64_0_0 nr64_0_0 hbr64_0_0 hsr64_0_0 hs76.pk6.pk7 _ hr78) ?_ ?_
    ·rintro r80 _ F4 w82 _ rfl hs83 le84 ⟨rfl, rfl⟩
     have h86 := sk_r h79
     refine Nss ?_
     obtain ⟨j92, hj97, h98⟩ := bind_some h86
     refine RDP 8 8 [(sb bp0 (krules_parser r64.1 ar64_0_0 nr64_0_0) 100), (sb b71 (krules_placed r64.2 ar64_1_2 nr64_1_2) 113), (sb b35 (krules_token x21) 97), (sb bp1 (kBook x1 a1_0 n1_0 a1_1 n1_1 a1_2 n1_2 a1_3 n1_3) 26), e1_0, e1_1, e1_2, e1_3] [] hs83 (fun c d w => d = [] ∧ ∃ (b : rules_bad) (Fp : Mem), j92 = .inl b ∧ c = [{ v := (.iface 158 (.agg (krules_bad b))), recovered := false }] ∧ HS wb Fb w Fp Lf ∧ Mem.le F4 Fp) (fun f w => ∃ (J99 : (Unit)), j92 = .inr J99 ∧ ∃ (F5 : Mem), HS wb Fb w F5 ((sb bp0 (krules_parser r64.1 ar64_0_0 nr64_0_0) 100) :: (sb b71 (krules_placed r64.2 ar64_1_2 nr64_1_2) 113) :: (sb bp1 (kBook x1 a1_0 n1_0 a1_1 n1_1 a1_2 n1_2 a1_3 n1_3) 26) :: e1_0 :: e1_1 :: e1_2 :: e1_3 :: Lf) ∧ Mem.le F4 F5 ∧ FI f [] [(0, (pt bp0 0)), (1, (pt bp1 0)), (5, (pt b71 0))]) (fun wd87 hw88 => ?_) ?_ ?_
     ·refine Dv [0, 1, 2, 3] ?_
      refine Dl 4 (fun _ hq => (hq.1.2 3 _ _ rfl)) ?_
      refine Dv [5] ?_
      refine Dl 6 (fun _ hq => (hq.1.2 2 _ _ rfl)) ?_
      refine D1 7 ?_
      obtain ⟨r100, hr101, h102⟩ := bind_some hj97
      refine DCP co_rules_room_api_Expr (c_rules_room_api_Expr N bp0 (r64.1) ar64_0_0 nr64_0_0 hbr64_0_0 (SlA.mono hsr64_0_0 le84) (x1.Repeats) a1_3 n1_3 (x21.at_) hw88 _ hr101) ?_ ?_
      ·rintro r103 _ F6 w105 _ rfl hs106 le107 ⟨rfl, rfl⟩
       have h109 := sk_r h102
       refine ⟨dz_of hs106 le107 (by simp) (zdT (by kernel_rfl)), ?_⟩
       obtain rfl := some_inj h109
       exact DWP.done (by kernel_rfl) ⟨_, rfl, F6, hs106.dr2, le107, fI⟩
      ·rintro b110 F7 w111 rfl hs112 le113
       have h114 := sk_l h102
       obtain rfl := some_inj h114
       have hs116 := hs112.dr0.dr0.dr0.dr0.dr0
       exact ⟨rfl, _, _, rfl, rfl, hs116.dr0.dr0, le113⟩
     ·rintro f w89 ⟨J99, rfl, F5, hs90, le91, ⟨_, rfl⟩⟩
      have h117 := sk_r h98
      refine thenQ_nrm ?_
      refine Sq (Rg [0, 1, 2] ?_)
      refine Vs 1 ?_
      refine Ld hs90.at1 ?_
      obtain ⟨r118, hr119, h120⟩ := bind_some h117
      refine CP co_rules_parser_check (c_rules_parser_check N bp0 (r64.1) ar64_0_0 nr64_0_0 hbr64_0_0 (SlA.mono hsr64_0_0 (le84.trans le91)) (r64.2) ar64_1_2 nr64_1_2 hbr64_1_2 (SlA.mono hsr64_1_2 (le84.trans le91)) (1) hs90 _ hr119) ?_ ?_
      ·rintro r121 _ F8 w123 _ rfl hs124 le125 ⟨rfl, rfl⟩
       have h127 := sk_r h120
       refine Nss ?_
       obtain ⟨j133, hj135, h136⟩ := bind_some h127
       refine RD 14 14 [(sb bp0 (krules_parser r64.1 ar64_0_0 nr64_0_0) 100), (sb b71 (krules_placed r64.2 ar64_1_2 nr64_1_2) 113), e1_0, e1_1, e1_2] [] hs124 (fun f w => ∃ (F9 : Mem) (aj133_0 : Option Addr) (nj133_0 : Nat) (ej133_0 : Option Nat × Obj), HS wb Fb w F9 ((sb bp0 (krules_parser r64.1 ar64_0_0 nr64_0_0) 100) :: (sb bp1 #[(.slice a1_0 x1.Points.length n1_0), (.slice a1_1 x1.Multipliers.length n1_1), (.slice a1_2 x1.Penalties.length n1_2), (.slice aj133_0 j133.length nj133_0)] 26) :: e1_0 :: e1_1 :: e1_2 :: ej133_0 :: Lf) ∧ Mem.le F8 F9 ∧ FI f [] [] ∧ RowR tExpr 33 F9 aj133_0 nj133_0 j133 ej133_0) (fun wd128 hw129 => ?_) ?_
       ·refine Dv [0, 1, 2, 4] ?_
        refine Dl 5 (fun _ hq => (hq.1.2 1 _ _ rfl)) ?_
        refine DWP.two (i := 3) (j := 7) (by kernel_rfl) ?_ ?_
        ·refine DStep.val (l' := [true, true, true, true, true, true, false, false, false, false, false, false, false, false]) (zd := true) (by kernel_rfl) (by kernel_rfl) (dst := (some 39)) (ty := 24) (g := none) (by kernel_rfl) rfl (run_load' (t := 24) (x := (.tmp 38)) (b := bp1) (o := 3) (g := false) (s := 1) (C := (kBook x1 a1_0 n1_0 a1_1 n1_1 a1_2 n1_2 a1_3 n1_3)) (v := (.slice a1_3 x1.Repeats.length n1_3)) rfl (by kernel_rfl) hw129.at2 rfl rfl rfl) (dz_of hw129 (Mem.le.refl _) (by simp) (fun e => by cases e)) ?_
         refine Dv [6] ?_
         refine D1 7 ?_
         refine DBs 33 [(vi 0), (vi 0), (.slice none ([] : List Expr).length 0)] hw129 (Mem.le.refl _) (fun b137 w138 hs139 => ?_)
         have hr141 : RowR tExpr 33 F8 (some ⟨b137, 0, none⟩) 1 [({ Op := 0, Value := 0, Kids := ([] : List Expr) } : Expr)] (some b137, .cells ([(vi 0), (vi 0), (.slice none ([] : List Expr).length 0)] : List Value).toArray 33 (0, 0)) := RowR.lit ⟨(tExpr_mk ⟨none, 0, rfl, LC.nil, (.inl rfl)⟩), rfl⟩ (by simp)
         refine D1 8 ?_
         obtain ⟨r142, hap143, h144⟩ := bind_some hj135
         refine DAp7 oExpr hs139 (hr1_3.mono (((((le46.trans le58).trans le68).trans le84).trans le91).trans le125)) (hs139.rd0 hr141) hap143 (Mem.le.refl _) (fun a145 n146 e147 w148 hs149 hr150 => ?_)
         obtain ⟨x151, hx152, h154⟩ := bind_some h144
         obtain ⟨hi153, hx152'⟩ := idx_spec hx152
         obtain ⟨b155, C156, rfl, rfl, hE159⟩ := RowR.open hr150 hx152'
         have hr160 := hr150
         obtain ⟨ae161_2, ne161_2, hc162, hbe161_2, hse161_2⟩ := (tExpr_open (hE159 _ _ hx152'))
         refine Dj 9 hi153 ?_
         refine Dv [11, 12] ?_
         refine DWP.two (i := 10) (j := 13) (by kernel_rfl) ?_ ?_
         ·refine DStep.storeRow (l' := [true, true, true, true, true, true, true, true, true, true, true, true, true, false]) (zd := true) (by kernel_rfl) (by kernel_rfl) (ty := 0) (g := none) (by kernel_rfl) rfl (x := (.tmp 45)) (y := (.tmp 41)) (t := 33) (v := (.agg (kExpr r64.2.Expr ar64_1_2 nr64_1_2))) (gg := true) (b := b155) (j := ((x1.Repeats.length : Int) : Int).toNat) (C := C156) (T := tExpr) (E := 33) (u := (r64.2.Expr)) rfl rfl (by kernel_rfl) hs149 (k := 7) rfl hr160 hx152' (tExpr_mk ⟨ar64_1_2, nr64_1_2, rfl, hbr64_1_2, (SlA.mono hsr64_1_2 ((le84.trans le91).trans le125))⟩) rfl (Mem.le.refl _) (fun _ => by simp) (fun e => by cases e) (fun C163 w164 (hs165 : HS wb Fb w164 F8 ((some b137, .cells ([(vi 0), (vi 0), (.slice none ([] : List Expr).length 0)] : List Value).toArray 33 (0, 0)) :: (sb bp0 (krules_parser r64.1 ar64_0_0 nr64_0_0) 100) :: (sb b71 (krules_placed r64.2 ar64_1_2 nr64_1_2) 113) :: (sb bp1 (kBook x1 a1_0 n1_0 a1_1 n1_1 a1_2 n1_2 a1_3 n1_3) 26) :: e1_0 :: e1_1 :: e1_2 :: (some b155, .cells C163 33 (0, 0)) :: Lf)) hr166 => ?_)
          refine D1 13 ?_
          refine DStep.store (l' := [true, true, true, true, true, true, true, true, true, true, true, true, true, true]) (zd := true) (by kernel_rfl) (by kernel_rfl) (ty := 0) (g := none) (by kernel_rfl) rfl (x := (.tmp 47)) (y := (.tmp 44)) (t := 24) (gg := false) (s := 1) (v := (.slice (some ⟨b155, 0, none⟩) (r142.set ((x1.Repeats.length : Int) : Int).toNat (r64.2.Expr)).length n146)) (b := bp1) (o := 3) (C := (kBook x1 a1_0 n1_0 a1_1 n1_1 a1_2 n1_2 a1_3 n1_3)) rfl (len_set rfl) (by kernel_rfl) hs165 (k := 3) rfl rfl rfl rfl (C' := #[(.slice a1_0 x1.Points.length n1_0), (.slice a1_1 x1.Multipliers.length n1_1), (.slice a1_2 x1.Penalties.length n1_2), (.slice (some ⟨b155, 0, none⟩) (r142.set ((x1.Repeats.length : Int) : Int).toNat (r64.2.Expr)).length n146)]) rfl (Mem.le.refl _) (by simp) (fun e => by cases e) (fun w167 (hs168 : HS wb Fb w167 F8 ((some b137, .cells ([(vi 0), (vi 0), (.slice none ([] : List Expr).length 0)] : List Value).toArray 33 (0, 0)) :: (sb bp0 (krules_parser r64.1 ar64_0_0 nr64_0_0) 100) :: (sb b71 (krules_placed r64.2 ar64_1_2 nr64_1_2) 113) :: (sb bp1 #[(.slice a1_0 x1.Points.length n1_0), (.slice a1_1 x1.Multipliers.length n1_1), (.slice a1_2 x1.Penalties.length n1_2), (.slice (some ⟨b155, 0, none⟩) (r142.set ((x1.Repeats.length : Int) : Int).toNat (r64.2.Expr)).length n146)] 26) :: e1_0 :: e1_1 :: e1_2 :: (some b155, .cells C163 33 (0, 0)) :: Lf)) => ?_)
          obtain rfl := some_inj h154
          exact DWP.done (by kernel_rfl) ⟨F8, (some ⟨b155, 0, none⟩), n146, (some b155, .cells C163 33 (0, 0)), hs168.dr0.dr1, (Mem.le.refl _), fI, hr166⟩
         ·refine DSt3 #[(.slice a1_0 x1.Points.length n1_0), (.slice a1_1 x1.Multipliers.length n1_1), (.slice a1_2 x1.Penalties.length n1_2), (.slice (some ⟨b155, 0, none⟩) r142.length n146)] hs149 (Mem.le.refl _) (fun w169 hs170 => ?_)
          refine D1 10 ?_
          refine DStep.storeRow (l' := [true, true, true, true, true, true, true, true, true, true, true, true, true, true]) (zd := true) (by kernel_rfl) (by kernel_rfl) (ty := 0) (g := none) (by kernel_rfl) rfl (x := (.tmp 45)) (y := (.tmp 41)) (t := 33) (v := (.agg (kExpr r64.2.Expr ar64_1_2 nr64_1_2))) (gg := true) (b := b155) (j := ((x1.Repeats.length : Int) : Int).toNat) (C := C156) (T := tExpr) (E := 33) (u := (r64.2.Expr)) rfl rfl (by kernel_rfl) hs170 (k := 7) rfl hr160 hx152' (tExpr_mk ⟨ar64_1_2, nr64_1_2, rfl, hbr64_1_2, (SlA.mono hsr64_1_2 ((le84.trans le91).trans le125))⟩) rfl (Mem.le.refl _) (fun _ => by simp) (fun e => by cases e) (fun C171 w172 (hs173 : HS wb Fb w172 F8 ((some b137, .cells ([(vi 0), (vi 0), (.slice none ([] : List Expr).length 0)] : List Value).toArray 33 (0, 0)) :: (sb bp0 (krules_parser r64.1 ar64_0_0 nr64_0_0) 100) :: (sb b71 (krules_placed r64.2 ar64_1_2 nr64_1_2) 113) :: (sb bp1 #[(.slice a1_0 x1.Points.length n1_0), (.slice a1_1 x1.Multipliers.length n1_1), (.slice a1_2 x1.Penalties.length n1_2), (.slice (some ⟨b155, 0, none⟩) r142.length n146)] 26) :: e1_0 :: e1_1 :: e1_2 :: (some b155, .cells C171 33 (0, 0)) :: Lf)) hr174 => ?_)
          have hs175 : HS wb Fb w172 F8 ((some b137, .cells ([(vi 0), (vi 0), (.slice none ([] : List Expr).length 0)] : List Value).toArray 33 (0, 0)) :: (sb bp0 (krules_parser r64.1 ar64_0_0 nr64_0_0) 100) :: (sb b71 (krules_placed r64.2 ar64_1_2 nr64_1_2) 113) :: (sb bp1 #[(.slice a1_0 x1.Points.length n1_0), (.slice a1_1 x1.Multipliers.length n1_1), (.slice a1_2 x1.Penalties.length n1_2), (.slice (some ⟨b155, 0, none⟩) (r142.set ((x1.Repeats.length : Int) : Int).toNat (r64.2.Expr)).length n146)] 26) :: e1_0 :: e1_1 :: e1_2 :: (some b155, .cells C171 33 (0, 0)) :: Lf) := by have hq := hs173; simp only [List.length_set] at hq ⊢; exact hq
          obtain rfl := some_inj h154
          exact DWP.done (by kernel_rfl) ⟨F8, (some ⟨b155, 0, none⟩), n146, (some b155, .cells C171 33 (0, 0)), hs175.dr0.dr1, (Mem.le.refl _), fI, hr174⟩
        ·refine DBs 33 [(vi 0), (vi 0), (.slice none ([] : List Expr).length 0)] hw129 (Mem.le.refl _) (fun b176 w177 hs178 => ?_)
         have hr180 : RowR tExpr 33 F8 (some ⟨b176, 0, none⟩) 1 [({ Op := 0, Value := 0, Kids := ([] : List Expr) } : Expr)] (some b176, .cells ([(vi 0), (vi 0), (.slice none ([] : List Expr).length 0)] : List Value).toArray 33 (0, 0)) := RowR.lit ⟨(tExpr_mk ⟨none, 0, rfl, LC.nil, (.inl rfl)⟩), rfl⟩ (by simp)
         refine D1 3 ?_
         refine DStep.val (l' := [true, true, true, true, true, true, false, true, false, false, false, false, false, false]) (zd := true) (by kernel_rfl) (by kernel_rfl) (dst := (some 39)) (ty := 24) (g := none) (by kernel_rfl) rfl (run_load' (t := 24) (x := (.tmp 38)) (b := bp1) (o := 3) (g := false) (s := 1) (C := (kBook x1 a1_0 n1_0 a1_1 n1_1 a1_2 n1_2 a1_3 n1_3)) (v := (.slice a1_3 x1.Repeats.length n1_3)) rfl (by kernel_rfl) hs178.at3 rfl rfl rfl) (dz_of hs178 (Mem.le.refl _) (by simp) (fun e => by cases e)) ?_
         refine Dv [6] ?_
         refine D1 8 ?_
         obtain ⟨r181, hap182, h183⟩ := bind_some hj135
         refine DAp7 oExpr hs178 (hr1_3.mono (((((le46.trans le58).trans le68).trans le84).trans le91).trans le125)) (hs178.rd0 hr180) hap182 (Mem.le.refl _) (fun a184 n185 e186 w187 hs188 hr189 => ?_)
         obtain ⟨x190, hx191, h193⟩ := bind_some h183
         obtain ⟨hi192, hx191'⟩ := idx_spec hx191
         obtain ⟨b194, C195, rfl, rfl, hE198⟩ := RowR.open hr189 hx191'
         have hr199 := hr189
         obtain ⟨ae200_2, ne200_2, hc201, hbe200_2, hse200_2⟩ := (tExpr_open (hE198 _ _ hx191'))
         refine Dj 9 hi192 ?_
         refine Dv [11, 12] ?_
         refine DWP.two (i := 10) (j := 13) (by kernel_rfl) ?_ ?_
         ·refine DStep.storeRow (l' := [true, true, true, true, true, true, true, true, true, true, true, true, true, false]) (zd := true) (by kernel_rfl) (by kernel_rfl) (ty := 0) (g := none) (by kernel_rfl) rfl (x := (.tmp 45)) (y := (.tmp 41)) (t := 33) (v := (.agg (kExpr r64.2.Expr ar64_1_2 nr64_1_2))) (gg := true) (b := b194) (j := ((x1.Repeats.length : Int) : Int).toNat) (C := C195) (T := tExpr) (E := 33) (u := (r64.2.Expr)) rfl rfl (by kernel_rfl) hs188 (k := 7) rfl hr199 hx191' (tExpr_mk ⟨ar64_1_2, nr64_1_2, rfl, hbr64_1_2, (SlA.mono hsr64_1_2 ((le84.trans le91).trans le125))⟩) rfl (Mem.le.refl _) (fun _ => by simp) (fun e => by cases e) (fun C202 w203 (hs204 : HS wb Fb w203 F8 ((some b176, .cells ([(vi 0), (vi 0), (.slice none ([] : List Expr).length 0)] : List Value).toArray 33 (0, 0)) :: (sb bp0 (krules_parser r64.1 ar64_0_0 nr64_0_0) 100) :: (sb b71 (krules_placed r64.2 ar64_1_2 nr64_1_2) 113) :: (sb bp1 (kBook x1 a1_0 n1_0 a1_1 n1_1 a1_2 n1_2 a1_3 n1_3) 26) :: e1_0 :: e1_1 :: e1_2 :: (some b194, .cells C202 33 (0, 0)) :: Lf)) hr205 => ?_)
          refine D1 13 ?_
          refine DStep.store (l' := [true, true, true, true, true, true, true, true, true, true, true, true, true, true]) (zd := true) (by kernel_rfl) (by kernel_rfl) (ty := 0) (g := none) (by kernel_rfl) rfl (x := (.tmp 47)) (y := (.tmp 44)) (t := 24) (gg := false) (s := 1) (v := (.slice (some ⟨b194, 0, none⟩) (r181.set ((x1.Repeats.length : Int) : Int).toNat (r64.2.Expr)).length n185)) (b := bp1) (o := 3) (C := (kBook x1 a1_0 n1_0 a1_1 n1_1 a1_2 n1_2 a1_3 n1_3)) rfl (len_set rfl) (by kernel_rfl) hs204 (k := 3) rfl rfl rfl rfl (C' := #[(.slice a1_0 x1.Points.length n1_0), (.slice a1_1 x1.Multipliers.length n1_1), (.slice a1_2 x1.Penalties.length n1_2), (.slice (some ⟨b194, 0, none⟩) (r181.set ((x1.Repeats.length : Int) : Int).toNat (r64.2.Expr)).length n185)]) rfl (Mem.le.refl _) (by simp) (fun e => by cases e) (fun w206 (hs207 : HS wb Fb w206 F8 ((some b176, .cells ([(vi 0), (vi 0), (.slice none ([] : List Expr).length 0)] : List Value).toArray 33 (0, 0)) :: (sb bp0 (krules_parser r64.1 ar64_0_0 nr64_0_0) 100) :: (sb b71 (krules_placed r64.2 ar64_1_2 nr64_1_2) 113) :: (sb bp1 #[(.slice a1_0 x1.Points.length n1_0), (.slice a1_1 x1.Multipliers.length n1_1), (.slice a1_2 x1.Penalties.length n1_2), (.slice (some ⟨b194, 0, none⟩) (r181.set ((x1.Repeats.length : Int) : Int).toNat (r64.2.Expr)).length n185)] 26) :: e1_0 :: e1_1 :: e1_2 :: (some b194, .cells C202 33 (0, 0)) :: Lf)) => ?_)
          obtain rfl := some_inj h193
          exact DWP.done (by kernel_rfl) ⟨F8, (some ⟨b194, 0, none⟩), n185, (some b194, .cells C202 33 (0, 0)), hs207.dr0.dr1, (Mem.le.refl _), fI, hr205⟩
         ·refine DSt3 #[(.slice a1_0 x1.Points.length n1_0), (.slice a1_1 x1.Multipliers.length n1_1), (.slice a1_2 x1.Penalties.length n1_2), (.slice (some ⟨b194, 0, none⟩) r181.length n185)] hs188 (Mem.le.refl _) (fun w208 hs209 => ?_)
          refine D1 10 ?_
          refine DStep.storeRow (l' := [true, true, true, true, true, true, true, true, true, true, true, true, true, true]) (zd := true) (by kernel_rfl) (by kernel_rfl) (ty := 0) (g := none) (by kernel_rfl) rfl (x := (.tmp 45)) (y := (.tmp 41)) (t := 33) (v := (.agg (kExpr r64.2.Expr ar64_1_2 nr64_1_2))) (gg := true) (b := b194) (j := ((x1.Repeats.length : Int) : Int).toNat) (C := C195) (T := tExpr) (E := 33) (u := (r64.2.Expr)) rfl rfl (by kernel_rfl) hs209 (k := 7) rfl hr199 hx191' (tExpr_mk ⟨ar64_1_2, nr64_1_2, rfl, hbr64_1_2, (SlA.mono hsr64_1_2 ((le84.trans le91).trans le125))⟩) rfl (Mem.le.refl _) (fun _ => by simp) (fun e => by cases e) (fun C210 w211 (hs212 : HS wb Fb w211 F8 ((some b176, .cells ([(vi 0), (vi 0), (.slice none ([] : List Expr).length 0)] : List Value).toArray 33 (0, 0)) :: (sb bp0 (krules_parser r64.1 ar64_0_0 nr64_0_0) 100) :: (sb b71 (krules_placed r64.2 ar64_1_2 nr64_1_2) 113) :: (sb bp1 #[(.slice a1_0 x1.Points.length n1_0), (.slice a1_1 x1.Multipliers.length n1_1), (.slice a1_2 x1.Penalties.length n1_2), (.slice (some ⟨b194, 0, none⟩) r181.length n185)] 26) :: e1_0 :: e1_1 :: e1_2 :: (some b194, .cells C210 33 (0, 0)) :: Lf)) hr213 => ?_)
          have hs214 : HS wb Fb w211 F8 ((some b176, .cells ([(vi 0), (vi 0), (.slice none ([] : List Expr).length 0)] : List Value).toArray 33 (0, 0)) :: (sb bp0 (krules_parser r64.1 ar64_0_0 nr64_0_0) 100) :: (sb b71 (krules_placed r64.2 ar64_1_2 nr64_1_2) 113) :: (sb bp1 #[(.slice a1_0 x1.Points.length n1_0), (.slice a1_1 x1.Multipliers.length n1_1), (.slice a1_2 x1.Penalties.length n1_2), (.slice (some ⟨b194, 0, none⟩) (r181.set ((x1.Repeats.length : Int) : Int).toNat (r64.2.Expr)).length n185)] 26) :: e1_0 :: e1_1 :: e1_2 :: (some b194, .cells C210 33 (0, 0)) :: Lf) := by have hq := hs212; simp only [List.length_set] at hq ⊢; exact hq
          obtain rfl := some_inj h193
          exact DWP.done (by kernel_rfl) ⟨F8, (some ⟨b194, 0, none⟩), n185, (some b194, .cells C210 33 (0, 0)), hs214.dr0.dr1, (Mem.le.refl _), fI, hr213⟩
       ·rintro f w130 ⟨F9, aj133_0, nj133_0, ej133_0, hs131, le132, ⟨_, rfl⟩, hrj133_0⟩
        refine thenQ_nrm ?_
        refine Rt ?_
        refine thenQ_ret ?_
        obtain rfl := some_inj h136
        exact ReP [] hs131 ((((((le46.trans le58).trans le68).trans le84).trans le91).trans le125).trans le132) ⟨ar64_0_0, nr64_0_0, a1_0, n1_0, e1_0, a1_1, n1_1, e1_1, a1_2, n1_2, e1_2, aj133_0, nj133_0, ej133_0, rfl, rfl, hbr64_0_0, (SlA.mono hsr64_0_0 (((le84.trans le91).trans le125).trans le132)), (hr1_0.mono ((((((le46.trans le58).trans le68).trans le84).trans le91).trans le125).trans le132)), (hr1_1.mono ((((((le46.trans le58).trans le68).trans le84).trans le91).trans le125).trans le132)), (hr1_2.mono ((((((le46.trans le58).trans le68).trans le84).trans le91).trans le125).trans le132)), hrj133_0⟩
      ·rintro b215 F10 w216 rfl hs217 le218
       have h219 := sk_l h120
       refine thenQ_pan ?_
       refine thenQ_pan ?_
       have hs221 := hs217.dr0.dr0.dr0.dr0.dr0
       obtain rfl := some_inj h219
       exact RePi hs221.dr0 (((((le46.trans le58).trans le68).trans le84).trans le91).trans le218)
     ·rintro c f w223 ⟨hd226, b222, F11, rfl, rfl, hs224, le225⟩
      have h227 := sk_l h98
      refine thenQ_pan ?_
      refine thenQ_pan ?_
      obtain rfl := some_inj h227
      exact ⟨hd226, .inr ⟨_, F11, rfl, rfl, hs224, ((((le46.trans le58).trans le68).trans le84).trans le225)⟩⟩
    ·rintro b228 F12 w229 rfl hs230 le231
     have h232 := sk_l h79
     refine thenQ_pan ?_
     refine thenQ_pan ?_
     have hs234 := hs230.dr0.dr0.dr0.dr0.dr0
     obtain rfl := some_inj h232
     exact RePi hs234.dr0.dr0 (((le46.trans le58).trans le68).trans le231)
   ·rintro b235 F13 w236 rfl hs237 le238
    have h239 := sk_l h63
    refine thenQ_pan ?_
    refine thenQ_pan ?_
    have hs241 := hs237.dr0.dr0.dr0.dr0.dr0
    obtain rfl := some_inj h239
    exact RePi hs241.dr0 ((le46.trans le58).trans le238)
  ·rintro b242 F14 w243 rfl hs244 le245
   have h246 := sk_l h53
   refine thenQ_pan ?_
   refine thenQ_pan ?_
   have hs248 := hs244.dr0.dr0.dr0.dr0.dr0
   obtain rfl := some_inj h246
   exact RePi hs248.dr0 (le46.trans le245)
 ·refine Sc ?_
  refine thenQ_nrm ?_
  refine Sq ?_
  refine part_lists (L := ((sb bp0 (krules_parser r41.1 ar41_0_0 nr41_0_0) 100) :: (sb b35 (krules_token x21) 97) :: (sb bp1 (kBook x1 a1_0 n1_0 a1_1 n1_1 a1_2 n1_2 a1_3 n1_3) 26) :: e1_0 :: e1_1 :: e1_2 :: e1_3 :: Lf)) hs45 rfl (fun f249 w250 e251 b252 hs253 hp254 h255 hkeep => ?_)
  have h256 : f249.d = [] := (hkeep.1).trans rfl
  have h257 : f249 0 = (pt bp0 0) := (hkeep.2.1).trans rfl
  have h258 : f249 4 = (pt b35 0) := (hkeep.2.2).trans rfl
  clear hkeep
  have hs259 : HS wb Fb w250 F1 (e251 :: (sb bp0 (krules_parser r41.1 ar41_0_0 nr41_0_0) 100) :: (sb b35 (krules_token x21) 97) :: (sb bp1 (kBook x1 a1_0 n1_0 a1_1 n1_1 a1_2 n1_2 a1_3 n1_3) 26) :: e1_0 :: e1_1 :: e1_2 :: e1_3 :: Lf) := hs253
  refine thenQ_nrm ?_
  refine Sq (Rg [0, 1, 2, 3, 4, 5, 6, 7, 8] ?_)
  refine V 60 167 (mv 6 (.map (some b252)) h255) ?_
  refine V 61 0 (fa 97 4 2 2 1 b35 0 2 h258) ?_
  refine Ld hs259.at2 ?_
  refine Sp h50 (fun hb260 h261 => ?_) (fun hb260 h262 => ?_)
  ·refine V 63 168 (run_lookPM1 (mt := 167) (k := 9) (vt := 166) (m := (.tmp 60)) (x := (.tmp 62)) rfl rfl (by kernel_rfl) (by kernel_rfl) (hs259.ownAt' (k := 0) rfl) hp254 (listsAt_0 hb260)) ?_
   refine Vs 5 ?_
   refine Nss ?_
   refine Sq (Rg [0, 1, 2, 3, 4, 5, 6, 7, 8] ?_)
   refine Vs 3 ?_
   refine Vg 69 95 2 false 68 rfl (mv 0 (pt bp0 0) h257) ?_
   refine Vg 70 0 2 false 68 rfl (fa 97 4 2 2 1 b35 0 2 h258) ?_
   refine Vg 71 9 2 false 68 rfl (ld 9 70 b35 2 false 1 (.string ⟨(x21.text_).toArray⟩) hs259.at2) ?_
   have hs263 := hs259.pk7.pk7.pk7.pk7.pk7
   obtain ⟨r264, hr265, h266⟩ := bind_some h261
   refine RWP.callB (dst := (some 72)) (ty := 4) (g := (some (2, false))) (by kernel_rfl) (gd_y (d := 68) (by kernel_rfl) rfl rfl) (f0 := (.func 80)) (aos := #[(.tmp 69), (.tmp 71)]) (ats := #[95, 9]) (fid := 80) (first := #[]) (cap := #[]) (args := [(pt bp0 0), (.string ⟨(x21.text_).toArray⟩)]) rfl co_rules_parser_accept (rfl) (c_rules_parser_accept N bp0 (r41.1) ar41_0_0 nr41_0_0 hbr41_0_0 hsr41_0_0 (x21.text_) hs263.pk7.pk6.pk7 _ hr265) ?_
   rintro _ F15 w267 _ hs268 le269 ⟨ar264_0_0, nr264_0_0, rfl, rfl, hbr264_0_0, hsr264_0_0⟩
   refine Vg 73 4 2 false 68 rfl (run_not (t := 4) (x := (.tmp 72)) (a := r264.2) rfl) ?_
   refine Pk0 (rfl : false = false) ?_
   refine Nt ?_
   refine Cd h266 (fun hb271 h272 => ?_) (fun hb271 h273 => ?_)
   ·refine Rg [0, 1, 2, 3] ?_
    refine V 75 95 (mv 0 (pt bp0 0) h257) ?_
    refine V 76 0 (fa 97 4 1 1 1 b35 0 1 h258) ?_
    refine Ld hs268.at2 ?_
    obtain ⟨r274, hr275, h276⟩ := bind_some h272
    refine CP co_rules_parser_fail (c_rules_parser_fail N bp0 (r264.1) ar264_0_0 nr264_0_0 hbr264_0_0 hsr264_0_0 (60) (x21.at_) hs268 _ hr275) ?_ ?_
    ·rintro _ _ _ _ _ rfl _ _ _; cases hr275
    ·rintro b279 F17 w280 rfl hs281 le282
     have h283 := sk_l h276
     refine thenQ_pan ?_
     have hs285 := hs281.dr0.dr0.dr0.dr0.dr0
     obtain rfl := some_inj h283
     exact ⟨h256, .inr ⟨_, F17, rfl, rfl, hs285.dr0.dr0, ((le46.trans le269).trans le282)⟩⟩
   ·refine Sc ?_
    refine thenQ_nrm ?_
    refine Sq (Rg [0, 1] ?_)
    refine V 79 95 (mv 0 (pt bp0 0) h257) ?_
    obtain ⟨r286, hr287, h288⟩ := bind_some h273
    refine CP co_rules_parser_expect (c_rules_parser_expect N bp0 (r264.1) ar264_0_0 nr264_0_0 hbr264_0_0 hsr264_0_0 (([58] : List UInt8)) hs268 _ hr287) ?_ ?_
    ·rintro r289 _ F18 w291 _ rfl hs292 le293 ⟨ar289_0_0, nr289_0_0, rfl, rfl, hbr289_0_0, hsr289_0_0⟩
     have h295 := sk_r h288
     refine Nss (Rg [0, 1, 2, 3] ?_)
     refine V 81 95 (mv 0 (pt bp0 0) h257) ?_
     obtain ⟨r296, hr297, h298⟩ := bind_some h295
     refine CP co_rules_parser_placed (c_rules_parser_placed N (hG.mono ((le46.trans le269).trans le293)) bp0 (r289) ar289_0_0 nr289_0_0 hbr289_0_0 hsr289_0_0 hs292 _ hr297) ?_ ?_
     ·rintro r299 _ F19 w301 _ rfl hs302 le303 ⟨ar299_0_0, nr299_0_0, ar299_1_2, nr299_1_2, rfl, rfl, hbr299_0_0, hsr299_0_0, hbr299_1_2, hsr299_1_2⟩
      have h305 := sk_r h298
      refine Al' 113 #[(vi 0), (vi 0), (.slice none ([] : List Expr).length 0), (vi 0)] hs302 (fun b306 w307 hs308 => ?_)
      refine St0 (krules_placed r299.2 ar299_1_2 nr299_1_2) hs308 (fun w309 hs310 => ?_)
      refine Nss (Rg [0, 1] ?_)
      refine V 83 95 (mv 0 (pt bp0 0) h257) ?_
      have hs317 : HS wb Fb w309 F19 (e251 :: (sb b35 (krules_token x21) 97) :: (sb bp1 (kBook x1 a1_0 n1_0 a1_1 n1_1 a1_2 n1_2 a1_3 n1_3) 26) :: e1_0 :: e1_1 :: e1_2 :: e1_3 :: (sb b306 (krules_placed r299.2 ar299_1_2 nr299_1_2) 113) :: (sb bp0 (krules_parser r299.1 ar299_0_0 nr299_0_0) 100) :: Lf) := hs310.pm [2, 3, 4, 5, 6, 7, 8, 0, 1]
      have hs318 : HS wb Fb w309 F19 ((sb bp0 (krules_parser r299.1 ar299_0_0 nr299_0_0) 100) :: (sb b306 (krules_placed r299.2 ar299_1_2 nr299_1_2) 113) :: e251 :: (sb b35 (krules_token x21) 97) :: (sb bp1 (kBook x1 a1_0 n1_0 a1_1 n1_1 a1_2 n1_2 a1_3 n1_3) 26) :: e1_0 :: e1_1 :: e1_2 :: e1_3 :: Lf) := hs317.pk7.pick (k := 8) rfl
      obtain ⟨r319, hr320, h321⟩ := bind_some h305
      refine CP co_rules_parser_expect (c_rules_parser_expect N bp0 (r299.1) ar299_0_0 nr299_0_0 hbr299_0_0 hsr299_0_0 (([61, 62] : List UInt8)) hs318 _ hr320) ?_ ?_
      ·rintro r322 _ F20 w324 _ rfl hs325 le326 ⟨ar322_0_0, nr322_0_0, rfl, rfl, hbr322_0_0, hsr322_0_0⟩
       have h328 := sk_r h321
       refine Nss (Rg [0, 1, 2, 3] ?_)
       refine V 85 95 (mv 0 (pt bp0 0) h257) ?_
       obtain ⟨r329, hr330, h331⟩ := bind_some h328
       refine CP co_rules_parser_placed (c_rules_parser_placed N (hG.mono ((((le46.trans le269).trans le293).trans le303).trans le326)) bp0 (r322) ar322_0_0 nr322_0_0 hbr322_0_0 hsr322_0_0 hs325 _ hr330) ?_ ?_
       ·rintro r332 _ F21 w334 _ rfl hs335 le336 ⟨ar332_0_0, nr332_0_0, ar332_1_2, nr332_1_2, rfl, rfl, hbr332_0_0, hsr332_0_0, hbr332_1_2, hsr332_1_2⟩
        have h338 := sk_r h331
        refine Al' 113 #[(vi 0), (vi 0), (.slice none ([] : List Expr).length 0), (vi 0)] hs335 (fun b339 w340 hs341 => ?_)
        refine St0 (krules_placed r332.2 ar332_1_2 nr332_1_2) hs341 (fun w342 hs343 => ?_)
        refine Nss (Rg [0, 1] ?_)
        refine V 87 95 (mv 0 (pt bp0 0) h257) ?_
        have hs353 : HS wb Fb w342 F21 ((sb bp0 (krules_parser r332.1 ar332_0_0 nr332_0_0) 100) :: (sb b339 (krules_placed r332.2 ar332_1_2 nr332_1_2) 113) :: (sb b306 (krules_placed r299.2 ar299_1_2 nr299_1_2) 113) :: e251 :: (sb b35 (krules_token x21) 97) :: (sb bp1 (kBook x1 a1_0 n1_0 a1_1 n1_1 a1_2 n1_2 a1_3 n1_3) 26) :: e1_0 :: e1_1 :: e1_2 :: e1_3 :: Lf) := hs343.pm [1, 0, 2, 3, 4, 5, 6, 7, 8, 9]
        obtain ⟨r354, hr355, h356⟩ := bind_some h338
        refine CP co_rules_parser_ended (c_rules_parser_ended N bp0 (r332.1) ar332_0_0 nr332_0_0 hbr332_0_0 hsr332_0_0 hs353 _ hr355) ?_ ?_
        ·rintro r357 _ F22 w359 _ rfl hs360 le361 ⟨rfl, rfl⟩
         have h363 := sk_r h356
         refine Nss ?_
         obtain ⟨j369, hj375, h376⟩ := bind_some h363
         refine RDP 7 7 [(sb bp0 (krules_parser r332.1 ar332_0_0 nr332_0_0) 100), (sb b339 (krules_placed r332.2 ar332_1_2 nr332_1_2) 113), (sb b306 (krules_placed r299.2 ar299_1_2 nr299_1_2) 113), e251, (sb b35 (krules_token x21) 97), (sb bp1 (kBook x1 a1_0 n1_0 a1_1 n1_1 a1_2 n1_2 a1_3 n1_3) 26), e1_0, e1_1, e1_2, e1_3] [] hs360 (fun c d w => d = [] ∧ ∃ (b : rules_bad) (Fp : Mem), j369 = .inl b ∧ c = [{ v := (.iface 158 (.agg (krules_bad b))), recovered := false }] ∧ HS wb Fb w Fp Lf ∧ Mem.le F22 Fp) (fun f w => ∃ (J377 : (Unit)), j369 = .inr J377 ∧ ∃ (F23 : Mem), HS wb Fb w F23 ((sb bp0 (krules_parser r332.1 ar332_0_0 nr332_0_0) 100) :: (sb b339 (krules_placed r332.2 ar332_1_2 nr332_1_2) 113) :: (sb b306 (krules_placed r299.2 ar299_1_2 nr299_1_2) 113) :: (sb bp1 (kBook x1 a1_0 n1_0 a1_1 n1_1 a1_2 n1_2 a1_3 n1_3) 26) :: e1_0 :: e1_1 :: e1_2 :: e1_3 :: Lf) ∧ Mem.le F22 F23 ∧ FI f [] [(0, (pt bp0 0)), (7, (pt bp1 0)), (9, (pt b306 0)), (10, (pt b339 0))]) (fun wd364 hw365 => ?_) ?_ ?_
         ·refine Dt 0 89 95 _ (fun _ hq => mv 0 (pt bp0 0) h257) ?_
          refine Dv [1, 2] ?_
          refine Dl 3 (fun _ hq => (hq.1.2 5 _ _ rfl)) ?_
          refine Dt 4 93 0 (pt b35 1) (fun _ hq => fa 97 4 1 1 1 b35 0 1 h258) ?_
          refine Dl 5 (fun _ hq => (hq.1.2 4 _ _ rfl)) ?_
          refine D1 6 ?_
          obtain ⟨r378, hr379, h380⟩ := bind_some hj375
          refine DCP co_rules_room_api_Clause (c_rules_room_api_Clause N bp0 (r332.1) ar332_0_0 nr332_0_0 hbr332_0_0 (SlA.mono hsr332_0_0 le361) (x1.Points) a1_0 n1_0 (x21.at_) hw365 _ hr379) ?_ ?_
          ·rintro r381 _ F24 w383 _ rfl hs384 le385 ⟨rfl, rfl⟩
           have h387 := sk_r h380
           refine ⟨dz_of hs384 le385 (by simp) (zdT (by kernel_rfl)), ?_⟩
           obtain rfl := some_inj h387
           exact DWP.done (by kernel_rfl) ⟨_, rfl, F24, hs384.dr3.dr3, le385, (fJ ⟨h257, rfl, rfl, rfl, trivial⟩ (hd := h256))⟩
          ·rintro b388 F25 w389 rfl hs390 le391
           have h392 := sk_l h380
           obtain rfl := some_inj h392
           have hs394 := hs390.dr0.dr0.dr0.dr0.dr0
           exact ⟨h256, _, _, rfl, rfl, hs394.dr0.dr0.dr0.dr0, le391⟩
         ·rintro f w366 ⟨J377, rfl, F23, hs367, le368, ⟨_, rfl⟩⟩
          have h395 := sk_r h376
          refine thenQ_nrm ?_
          refine Sq (Rg [0, 1, 2] ?_)
          refine Vs 1 ?_
          refine Ld hs367.at2 ?_
          obtain ⟨r396, hr397, h398⟩ := bind_some h395
          refine CP co_rules_parser_check (c_rules_parser_check N bp0 (r332.1) ar332_0_0 nr332_0_0 hbr332_0_0 (SlA.mono hsr332_0_0 (le361.trans le368)) (r299.2) ar299_1_2 nr299_1_2 hbr299_1_2 (SlA.mono hsr299_1_2 (((le326.trans le336).trans le361).trans le368)) (2) hs367 _ hr397) ?_ ?_
          ·rintro r399 _ F26 w401 _ rfl hs402 le403 ⟨rfl, rfl⟩
           have h405 := sk_r h398
           refine Nss (Rg [0, 1, 2] ?_)
           refine Vs 1 ?_
           refine Ld hs402.at1 ?_
           obtain ⟨r406, hr407, h408⟩ := bind_some h405
           refine CP co_rules_parser_check (c_rules_parser_check N bp0 (r332.1) ar332_0_0 nr332_0_0 hbr332_0_0 (SlA.mono hsr332_0_0 ((le361.trans le368).trans le403)) (r332.2) ar332_1_2 nr332_1_2 hbr332_1_2 (SlA.mono hsr332_1_2 ((le361.trans le368).trans le403)) (1) hs402 _ hr407) ?_ ?_
           ·rintro r409 _ F27 w411 _ rfl hs412 le413 ⟨rfl, rfl⟩
            have h415 := sk_r h408
            refine Nt ?_
            obtain ⟨j421, hj423, h424⟩ := bind_some h415
            refine RD 12 13 [(sb bp0 (krules_parser r332.1 ar332_0_0 nr332_0_0) 100), (sb b339 (krules_placed r332.2 ar332_1_2 nr332_1_2) 113), (sb b306 (krules_placed r299.2 ar299_1_2 nr299_1_2) 113), e1_1, e1_2, e1_3] [(sb bp1 (kBook x1 a1_0 n1_0 a1_1 n1_1 a1_2 n1_2 a1_3 n1_3) 26)] hs412 (fun f w => ∃ (F28 : Mem) (aj421_0 : Option Addr) (nj421_0 : Nat) (ej421_0 : Option Nat × Obj), HS wb Fb w F28 ((sb bp0 (krules_parser r332.1 ar332_0_0 nr332_0_0) 100) :: (sb bp1 #[(.slice aj421_0 j421.length nj421_0), (.slice a1_1 x1.Multipliers.length n1_1), (.slice a1_2 x1.Penalties.length n1_2), (.slice a1_3 x1.Repeats.length n1_3)] 26) :: ej421_0 :: e1_1 :: e1_2 :: e1_3 :: Lf) ∧ Mem.le F27 F28 ∧ FI f [] [] ∧ RowR tClause 56 F28 aj421_0 nj421_0 j421 ej421_0) (fun wd416 hw417 => ?_) ?_
            ·refine Dv [0, 1, 2] ?_
             refine Dl 3 (fun _ hq => ((hq.2 rfl).2 0 _ _ rfl)) ?_
             refine Dv [4] ?_
             refine Dl 5 (fun _ hq => (hq.1.2 2 _ _ rfl)) ?_
             refine Dv [6] ?_
             refine Dl 7 (fun _ hq => (hq.1.2 1 _ _ rfl)) ?_
             refine Dv [8] ?_
             refine D1 9 ?_
             refine DBs 56 [(vi r299.2.Expr.Op), (vi r299.2.Expr.Value), (.slice ar299_1_2 r299.2.Expr.Kids.length nr299_1_2), (vi r332.2.Expr.Op), (vi r332.2.Expr.Value), (.slice ar332_1_2 r332.2.Expr.Kids.length nr332_1_2)] hw417 (Mem.le.refl _) (fun b425 w426 hs427 => ?_)
             have hr429 : RowR tClause 56 F27 (some ⟨b425, 0, none⟩) 1 [({ When := r299.2.Expr, Then := r332.2.Expr } : Clause)] (some b425, .cells ([(vi r299.2.Expr.Op), (vi r299.2.Expr.Value), (.slice ar299_1_2 r299.2.Expr.Kids.length nr299_1_2), (vi r332.2.Expr.Op), (vi r332.2.Expr.Value), (.slice ar332_1_2 r332.2.Expr.Kids.length nr332_1_2)] : List Value).toArray 56 (0, 0)) := RowR.lit ⟨⟨ar299_1_2, nr299_1_2, ar332_1_2, nr332_1_2, rfl, hbr299_1_2, (SlA.mono hsr299_1_2 (((((le326.trans le336).trans le361).trans le368).trans le403).trans le413)), hbr332_1_2, (SlA.mono hsr332_1_2 (((le361.trans le368).trans le403).trans le413))⟩, rfl⟩ (by simp)
             refine D1 10 ?_
             obtain ⟨r430, hap431, h432⟩ := bind_some hj423
             refine DAp5 oClause hs427 (hr1_0.mono (((((((((le46.trans le269).trans le293).trans le303).trans le326).trans le336).trans le361).trans le368).trans le403).trans le413)) (hs427.rd0 hr429) hap431 (Mem.le.refl _) (fun a433 n434 e435 w436 hs437 hr438 => ?_)
             refine Dv [11] ?_
             refine D1 12 ?_
             refine DSt4 #[(.slice a433 r430.length n434), (.slice a1_1 x1.Multipliers.length n1_1), (.slice a1_2 x1.Penalties.length n1_2), (.slice a1_3 x1.Repeats.length n1_3)] hs437 (Mem.le.refl _) (fun w439 hs440 => ?_)
             obtain rfl := some_inj h432
             exact DWP.done (by kernel_rfl) ⟨F27, a433, n434, e435, hs440.dr0.dr1.dr1, (Mem.le.refl _), fI, hr438⟩
            ·rintro f w418 ⟨F28, aj421_0, nj421_0, ej421_0, hs419, le420, ⟨_, rfl⟩, hrj421_0⟩
             obtain rfl := some_inj h424
             exact ReP [] hs419 ((((((((((le46.trans le269).trans le293).trans le303).trans le326).trans le336).trans le361).trans le368).trans le403).trans le413).trans le420) ⟨ar332_0_0, nr332_0_0, aj421_0, nj421_0, ej421_0, a1_1, n1_1, e1_1, a1_2, n1_2, e1_2, a1_3, n1_3, e1_3, rfl, rfl, hbr332_0_0, (SlA.mono hsr332_0_0 ((((le361.trans le368).trans le403).trans le413).trans le420)), hrj421_0, (hr1_1.mono ((((((((((le46.trans le269).trans le293).trans le303).trans le326).trans le336).trans le361).trans le368).trans le403).trans le413).trans le420)), (hr1_2.mono ((((((((((le46.trans le269).trans le293).trans le303).trans le326).trans le336).trans le361).trans le368).trans le403).trans le413).trans le420)), (hr1_3.mono ((((((((((le46.trans le269).trans le293).trans le303).trans le326).trans le336).trans le361).trans le368).trans le403).trans le413).trans le420))⟩
           ·rintro b441 F29 w442 rfl hs443 le444
            have h445 := sk_l h408
            refine thenQ_pan ?_
            have hs447 := hs443.dr0.dr0.dr0.dr0.dr0
            obtain rfl := some_inj h445
            exact RePi hs447.dr0.dr0 (((((((((le46.trans le269).trans le293).trans le303).trans le326).trans le336).trans le361).trans le368).trans le403).trans le444)
          ·rintro b448 F30 w449 rfl hs450 le451
           have h452 := sk_l h398
           refine thenQ_pan ?_
           have hs454 := hs450.dr0.dr0.dr0.dr0.dr0
           obtain rfl := some_inj h452
           exact RePi hs454.dr0.dr0 ((((((((le46.trans le269).trans le293).trans le303).trans le326).trans le336).trans le361).trans le368).trans le451)
         ·rintro c f w456 ⟨hd459, b455, F31, rfl, rfl, hs457, le458⟩
          have h460 := sk_l h376
          refine thenQ_pan ?_
          obtain rfl := some_inj h460
          exact ⟨hd459, .inr ⟨_, F31, rfl, rfl, hs457, (((((((le46.trans le269).trans le293).trans le303).trans le326).trans le336).trans le361).trans le458)⟩⟩
        ·rintro b461 F32 w462 rfl hs463 le464
         have h465 := sk_l h356
         refine thenQ_pan ?_
         have hs467 := hs463.dr0.dr0.dr0.dr0.dr0
         obtain rfl := some_inj h465
         exact ⟨h256, .inr ⟨_, F32, rfl, rfl, hs467.dr0.dr0.dr0.dr0, ((((((le46.trans le269).trans le293).trans le303).trans le326).trans le336).trans le464)⟩⟩
       ·rintro b468 F33 w469 rfl hs470 le471
        have h472 := sk_l h331
        refine thenQ_pan ?_
        have hs474 := hs470.dr0.dr0.dr0.dr0.dr0
        obtain rfl := some_inj h472
        exact ⟨h256, .inr ⟨_, F33, rfl, rfl, hs474.dr0.dr0.dr0, (((((le46.trans le269).trans le293).trans le303).trans le326).trans le471)⟩⟩
      ·rintro b475 F34 w476 rfl hs477 le478
       have h479 := sk_l h321
       refine thenQ_pan ?_
       have hs481 := hs477.dr0.dr0.dr0.dr0.dr0
       obtain rfl := some_inj h479
       exact ⟨h256, .inr ⟨_, F34, rfl, rfl, hs481.dr0.dr0.dr0, ((((le46.trans le269).trans le293).trans le303).trans le478)⟩⟩
     ·rintro b482 F35 w483 rfl hs484 le485
      have h486 := sk_l h298
      refine thenQ_pan ?_
      have hs488 := hs484.dr0.dr0.dr0.dr0.dr0
      obtain rfl := some_inj h486
      exact ⟨h256, .inr ⟨_, F35, rfl, rfl, hs488.dr0.dr0, (((le46.trans le269).trans le293).trans le485)⟩⟩
    ·rintro b489 F36 w490 rfl hs491 le492
     have h493 := sk_l h288
     refine thenQ_pan ?_
     have hs495 := hs491.dr0.dr0.dr0.dr0.dr0
     obtain rfl := some_inj h493
     exact ⟨h256, .inr ⟨_, F36, rfl, rfl, hs495.dr0.dr0, ((le46.trans le269).trans le492)⟩⟩
  ·cases h262
end Go.Proofs.YtaihlcdkcampbaaGreatDoor
namespace Go.Proofs.YtaihlcdkcampbaaGreatDoor
open Go.Proofs
def rules_Parse_1_L0 (N : Nat) (x0 : rules_parser) (z0 : Book) : (List rules_token × Int × List Clause × List Clause × List Clause × List Expr) → Option (Flow (rules_bad ⊕ (rules_parser × Book)) (List rules_token × Int × List Clause × List Clause × List Clause × List Expr)) := fun s24 =>
 ((idx s24.1 0).bind fun x42 => (bif (x42.kind_ != 0) then ((rules_parser_accept N ({ l_ := s24.1, open_ := s24.2.1 } : rules_parser) ([10] : List UInt8)).bind fun r59 => (bif (!r59.2) then ((rules_parser_part N r59.1 ({ Points := s24.2.2.1, Multipliers := s24.2.2.2.1, Penalties := s24.2.2.2.2.1, Repeats := s24.2.2.2.2.2 } : Book)).bind fun r69 => sk r69 (fun b80 => some (.ret (.inl b80))) (fun r72 => some (.next (r72.1.l_, r72.1.open_, r72.2.Points, r72.2.Multipliers, r72.2.Penalties, r72.2.Repeats)))) else some (.next (r59.1.l_, r59.1.open_, s24.2.2.1, s24.2.2.2.1, s24.2.2.2.2.1, s24.2.2.2.2.2)))) else some (.done (s24.1, s24.2.1, s24.2.2.1, s24.2.2.2.1, s24.2.2.2.2.1, s24.2.2.2.2.2))))
def rules_Parse_1 (N : Nat) (x0 : rules_parser) (z0 : Book) : Option (rules_bad ⊕ (rules_parser × Book)) :=
 ((iter (rules_Parse_1_L0 N x0 z0) N (x0.l_, x0.open_, z0.Points, z0.Multipliers, z0.Penalties, z0.Repeats)).bind fun o => o.k (fun r => some r) (fun s31 => some (.inr (({ l_ := s31.1, open_ := s31.2.1 } : rules_parser), ({ Points := s31.2.2.1, Multipliers := s31.2.2.2.1, Penalties := s31.2.2.2.2.1, Repeats := s31.2.2.2.2.2 } : Book)))))
theorem co_rules_Parse_1 : CallOk Tryz.prog 79 := fun _ _ => by kernel_rfl
theorem c_rules_Parse_1 (N : Nat) {wb w0 : World} {Fb F0 : Mem} {Lf : Own} (hG : Glob F0) (bp0 : Nat) (x0 : rules_parser) (a0_0 : Option Addr) (n0_0 : Nat) (hb0_0 : LC x0.l_.length n0_0) (hs0_0 : SlA trules_token F0 a0_0 x0.l_) (bz0 : Nat) (z0 : Book) (az0_0 : Option Addr) (nz0_0 : Nat) (ez0_0 : Option Nat × Obj) (az0_1 : Option Addr) (nz0_1 : Nat) (ez0_1 : Option Nat × Obj) (az0_2 : Option Addr) (nz0_2 : Nat) (ez0_2 : Option Nat × Obj) (az0_3 : Option Addr) (nz0_3 : Nat) (ez0_3 : Option Nat × Obj) (hrz0_0 : RowR tClause 56 F0 az0_0 nz0_0 z0.Points ez0_0) (hrz0_1 : RowR tClause 56 F0 az0_1 nz0_1 z0.Multipliers ez0_1) (hrz0_2 : RowR tClause 56 F0 az0_2 nz0_2 z0.Penalties ez0_2) (hrz0_3 : RowR tExpr 33 F0 az0_3 nz0_3 z0.Repeats ez0_3) (hs0 : HS wb Fb w0 F0 ((sb bp0 (krules_parser x0 a0_0 n0_0) 100) :: (sb bz0 (kBook z0 az0_0 nz0_0 az0_1 nz0_1 az0_2 nz0_2 az0_3 nz0_3) 26) :: ez0_0 :: ez0_1 :: ez0_2 :: ez0_3 :: Lf)) (r : (rules_bad ⊕ (rules_parser × Book))) (h : rules_Parse_1 N x0 z0 = some r) :
  Calls Tryz.prog 79 ([(pt bp0 0), (pt bz0 0)] : List Value).toArray w0 (BRetP wb Fb F0 Lf r (fun b => (.iface 158 (.agg (krules_bad b)))) fun a F' v L' => ∃ (aq0_0 : Option Addr) (nq0_0 : Nat) (aq1_0 : Option Addr) (nq1_0 : Nat) (eq1_0 : Option Nat × Obj) (aq1_1 : Option Addr) (nq1_1 : Nat) (eq1_1 : Option Nat × Obj) (aq1_2 : Option Addr) (nq1_2 : Nat) (eq1_2 : Option Nat × Obj) (aq1_3 : Option Addr) (nq1_3 : Nat) (eq1_3 : Option Nat × Obj), v = (.tuple #[]) ∧ L' = (sb bp0 (krules_parser a.1 aq0_0 nq0_0) 100) :: (sb bz0 (kBook a.2 aq1_0 nq1_0 aq1_1 nq1_1 aq1_2 nq1_2 aq1_3 nq1_3) 26) :: eq1_0 :: eq1_1 :: eq1_2 :: eq1_3 :: Lf ∧ LC a.1.l_.length nq0_0 ∧ SlA trules_token F' aq0_0 a.1.l_ ∧ RowR tClause 56 F' aq1_0 nq1_0 a.2.Points eq1_0 ∧ RowR tClause 56 F' aq1_1 nq1_1 a.2.Multipliers eq1_1 ∧ RowR tClause 56 F' aq1_2 nq1_2 a.2.Penalties eq1_2 ∧ RowR tExpr 33 F' aq1_3 nq1_3 a.2.Repeats eq1_3) := by
 refine Go 16 Tryz.func79 ?_
 obtain ⟨o21, ho22, h23⟩ := bind_some h
 refine CWP.cut (fun f w => ∃ (s31 : (List rules_token × Int × List Clause × List Clause × List Clause × List Expr)) (F2 : Mem) (as31_0 : Option Addr) (ns31_0 : Nat) (as31_2 : Option Addr) (ns31_2 : Nat) (es31_2 : Option Nat × Obj) (as31_3 : Option Addr) (ns31_3 : Nat) (es31_3 : Option Nat × Obj) (as31_4 : Option Addr) (ns31_4 : Nat) (es31_4 : Option Nat × Obj) (as31_5 : Option Addr) (ns31_5 : Nat) (es31_5 : Option Nat × Obj), o21 = .done s31 ∧ HS wb Fb w F2 ((sb bp0 #[(.slice as31_0 s31.1.length ns31_0), (vi s31.2.1)] 100) :: (sb bz0 #[(.slice as31_2 s31.2.2.1.length ns31_2), (.slice as31_3 s31.2.2.2.1.length ns31_3), (.slice as31_4 s31.2.2.2.2.1.length ns31_4), (.slice as31_5 s31.2.2.2.2.2.length ns31_5)] 26) :: es31_2 :: es31_3 :: es31_4 :: es31_5 :: Lf) ∧ Mem.le F0 F2 ∧ FI f [] [] ∧ LC s31.1.length ns31_0 ∧ SlA trules_token F2 as31_0 s31.1 ∧ RowR tClause 56 F2 as31_2 ns31_2 s31.2.2.1 es31_2 ∧ RowR tClause 56 F2 as31_3 ns31_3 s31.2.2.2.1 es31_3 ∧ RowR tClause 56 F2 as31_4 ns31_4 s31.2.2.2.2.1 es31_4 ∧ RowR tExpr 33 F2 as31_5 ns31_5 s31.2.2.2.2.2 es31_5) ?_ ?_
 ·refine Bk ?_
  refine CWP.loop (by kernel_rfl) (fun m f w => ∃ (s24 : (List rules_token × Int × List Clause × List Clause × List Clause × List Expr)) (F1 : Mem) (as24_0 : Option Addr) (ns24_0 : Nat) (as24_2 : Option Addr) (ns24_2 : Nat) (es24_2 : Option Nat × Obj) (as24_3 : Option Addr) (ns24_3 : Nat) (es24_3 : Option Nat × Obj) (as24_4 : Option Addr) (ns24_4 : Nat) (es24_4 : Option Nat × Obj) (as24_5 : Option Addr) (ns24_5 : Nat) (es24_5 : Option Nat × Obj), iter (rules_Parse_1_L0 N x0 z0) m s24 = some o21 ∧ HS wb Fb w F1 ((sb bp0 #[(.slice as24_0 s24.1.length ns24_0), (vi s24.2.1)] 100) :: (sb bz0 #[(.slice as24_2 s24.2.2.1.length ns24_2), (.slice as24_3 s24.2.2.2.1.length ns24_3), (.slice as24_4 s24.2.2.2.2.1.length ns24_4), (.slice as24_5 s24.2.2.2.2.2.length ns24_5)] 26) :: es24_2 :: es24_3 :: es24_4 :: es24_5 :: Lf) ∧ Mem.le F0 F1 ∧ FI f [] [(0, (pt bp0 0)), (1, (pt bz0 0))] ∧ LC s24.1.length ns24_0 ∧ SlA trules_token F1 as24_0 s24.1 ∧ RowR tClause 56 F1 as24_2 ns24_2 s24.2.2.1 es24_2 ∧ RowR tClause 56 F1 as24_3 ns24_3 s24.2.2.2.1 es24_3 ∧ RowR tClause 56 F1 as24_4 ns24_4 s24.2.2.2.2.1 es24_4 ∧ RowR tExpr 33 F1 as24_5 ns24_5 s24.2.2.2.2.2 es24_5) N ⟨(x0.l_, x0.open_, z0.Points, z0.Multipliers, z0.Penalties, z0.Repeats), F0, a0_0, n0_0, az0_0, nz0_0, ez0_0, az0_1, nz0_1, ez0_1, az0_2, nz0_2, ez0_2, az0_3, nz0_3, ez0_3, ho22, hs0, (Mem.le.refl _), fI, hb0_0, hs0_0, hrz0_0, hrz0_1, hrz0_2, hrz0_3⟩ ?_
  rintro m36 f w25 ⟨s24, F1, as24_0, ns24_0, as24_2, ns24_2, es24_2, as24_3, ns24_3, es24_3, as24_4, ns24_4, es24_4, as24_5, ns24_5, es24_5, hit37, hs26, le27, ⟨_, rfl⟩, hbs24_0, hss24_0, hrs24_2, hrs24_3, hrs24_4, hrs24_5⟩
  obtain ⟨m38, fl39, rfl, hb40, hnx41⟩ := iter_step hit37
  refine Sq ?_
  refine Sq (Rg [0, 1, 2, 3, 4, 5, 6, 7] ?_)
  refine Vs 3 ?_
  refine Ld hs26.at0 ?_
  obtain ⟨x42, hx43, h45⟩ := bind_some hb40
  obtain ⟨hi44, hx43'⟩ := idx_spec hx43
  obtain ⟨b46, o47, C48, E49, fz50, rfl, hF52, hE53⟩ := SlA.open hss24_0 hx43'
  have hc55 := hE53 _ _ hx43'
  refine Ix hi44 ?_
  refine Vs 1 ?_
  refine Lx 0 (hs26.pers _ _ hF52) hc55 ?_
  refine Vs 1 ?_
  refine Nt ?_
  refine Cd h45 (fun hb56 h57 => ?_) (fun hb56 h58 => ?_)
  ·refine Sc ?_
   refine thenQ_nrm ?_
   refine Bk ?_
   refine Sq (Rg [0, 1, 2] ?_)
   refine Vs 1 ?_
   obtain ⟨r59, hr60, h61⟩ := bind_some h57
   refine CB co_rules_parser_accept (c_rules_parser_accept N bp0 (({ l_ := s24.1, open_ := s24.2.1 } : rules_parser)) (some ⟨b46, o47, none⟩) ns24_0 hbs24_0 hss24_0 (([10] : List UInt8)) hs26 _ hr60) ?_
   rintro _ F3 w62 _ hs63 le64 ⟨ar59_0_0, nr59_0_0, rfl, rfl, hbr59_0_0, hsr59_0_0⟩
   refine Vs 1 ?_
   refine Nt ?_
   refine Cd h61 (fun hb66 h67 => ?_) (fun hb66 h68 => ?_)
   ·refine Rg [0, 1] ?_
    refine Vs 1 ?_
    obtain ⟨r69, hr70, h71⟩ := bind_some h67
    refine CP co_rules_parser_part (c_rules_parser_part N (hG.mono (le27.trans le64)) bp0 (r59.1) ar59_0_0 nr59_0_0 hbr59_0_0 hsr59_0_0 bz0 (({ Points := s24.2.2.1, Multipliers := s24.2.2.2.1, Penalties := s24.2.2.2.2.1, Repeats := s24.2.2.2.2.2 } : Book)) as24_2 ns24_2 es24_2 as24_3 ns24_3 es24_3 as24_4 ns24_4 es24_4 as24_5 ns24_5 es24_5 (hrs24_2.mono le64) (hrs24_3.mono le64) (hrs24_4.mono le64) (hrs24_5.mono le64) hs63 _ hr70) ?_ ?_
    ·rintro r72 _ F4 w74 _ rfl hs75 le76 ⟨ar72_0_0, nr72_0_0, ar72_1_0, nr72_1_0, er72_1_0, ar72_1_1, nr72_1_1, er72_1_1, ar72_1_2, nr72_1_2, er72_1_2, ar72_1_3, nr72_1_3, er72_1_3, rfl, rfl, hbr72_0_0, hsr72_0_0, hrr72_1_0, hrr72_1_1, hrr72_1_2, hrr72_1_3⟩
     have h78 := sk_r h71
     refine RWP.nil ?_
     refine blockQ_nrm ?_
     have hn79 := iter_next h78 hnx41
     exact ⟨m38, Nat.lt_succ_self _, (r72.1.l_, r72.1.open_, r72.2.Points, r72.2.Multipliers, r72.2.Penalties, r72.2.Repeats), F4, ar72_0_0, nr72_0_0, ar72_1_0, nr72_1_0, er72_1_0, ar72_1_1, nr72_1_1, er72_1_1, ar72_1_2, nr72_1_2, er72_1_2, ar72_1_3, nr72_1_3, er72_1_3, hn79, hs75, ((le27.trans le64).trans le76), fI, hbr72_0_0, hsr72_0_0, hrr72_1_0, hrr72_1_1, hrr72_1_2, hrr72_1_3⟩
    ·rintro b80 F5 w81 rfl hs82 le83
     have h84 := sk_l h71
     refine blockQ_pan ?_
     refine thenQ_pan ?_
     refine blockQ_pan ?_
     have hret := iter_ret h84 hnx41
     subst hret
     refine .inr ?_
     obtain rfl := some_inj h23
     exact RePi hs82 ((le27.trans le64).trans le83)
   ·refine Sc ?_
    refine blockQ_nrm ?_
    have hn86 := iter_next h68 hnx41
    exact ⟨m38, Nat.lt_succ_self _, (r59.1.l_, r59.1.open_, s24.2.2.1, s24.2.2.2.1, s24.2.2.2.2.1, s24.2.2.2.2.2), F3, ar59_0_0, nr59_0_0, as24_2, ns24_2, es24_2, as24_3, ns24_3, es24_3, as24_4, ns24_4, es24_4, as24_5, ns24_5, es24_5, hn86, hs63, (le27.trans le64), fI, hbr59_0_0, hsr59_0_0, (hrs24_2.mono le64), (hrs24_3.mono le64), (hrs24_4.mono le64), (hrs24_5.mono le64)⟩
  ·refine Ex ?_
   refine thenQ_ex ?_
   refine thenQ_ex ?_
   refine blockQ_hit rfl ?_
   have ho87 := iter_done h58 hnx41
   exact .inl ⟨rfl, (s24.1, s24.2.1, s24.2.2.1, s24.2.2.2.1, s24.2.2.2.2.1, s24.2.2.2.2.2), F1, (some ⟨b46, o47, none⟩), ns24_0, as24_2, ns24_2, es24_2, as24_3, ns24_3, es24_3, as24_4, ns24_4, es24_4, as24_5, ns24_5, es24_5, ho87, hs26, le27, fI, hbs24_0, hss24_0, hrs24_2, hrs24_3, hrs24_4, hrs24_5⟩
 ·rintro f w32 ⟨s31, F2, as31_0, ns31_0, as31_2, ns31_2, es31_2, as31_3, ns31_3, es31_3, as31_4, ns31_4, es31_4, as31_5, ns31_5, es31_5, rfl, hs33, le34, ⟨_, rfl⟩, hbs31_0, hss31_0, hrs31_2, hrs31_3, hrs31_4, hrs31_5⟩
  have h88 := k_done h23
  obtain rfl := some_inj h88
  exact ReP [] hs33 le34 ⟨as31_0, ns31_0, as31_2, ns31_2, es31_2, as31_3, ns31_3, es31_3, as31_4, ns31_4, es31_4, as31_5, ns31_5, es31_5, rfl, rfl, hbs31_0, hss31_0, hrs31_2, hrs31_3, hrs31_4, hrs31_5⟩
end Go.Proofs.YtaihlcdkcampbaaGreatDoor
namespace Go.Proofs.YtaihlcdkcampbaaGreatDoor
open Go.Proofs
def zExpr : Expr := { Op := 0, Value := 0, Kids := ([] : List Expr) }
def zPlaced : rules_placed := { Expr := zExpr, at_ := 0 }
def zBook : Book := { Points := ([] : List Clause), Multipliers := ([] : List Clause), Penalties := ([] : List Clause), Repeats := ([] : List Expr) }
def readAs {α β : Type} (N : Nat) (s : List UInt8) (run : rules_parser → Option (rules_bad ⊕ α)) (z : β) (f : α → β) : Option (β × Int × Int) :=
 bif decide ((s.length : Int) > 65536) then some (z, 2, 0) else (rules_tokensOf N s).bind fun l => (run { l_ := l, open_ := 0 }).bind fun q => sk q (fun b => bif b.e_ != 0 then some (z, b.e_, b.at_) else none) (fun a => some (f a, 0, 0))
def rules_ParseExpr (N : Nat) (x0 : List UInt8) : Option (Expr × Int × Int) := readAs N x0 (fun p => rules_ParseExpr_1 N p zPlaced) zExpr (fun a => a.2.Expr)
def rules_Parse (N : Nat) (x0 : List UInt8) : Option (Book × Int × Int) := readAs N x0 (fun p => rules_Parse_1 N p zBook) zBook (fun a => a.2)
theorem bif_true {α : Type} {b : Bool} {x y : α} (h : b = true) : (bif b then x else y) = x := by subst h; rfl
theorem bif_false {α : Type} {b : Bool} {x y : α} (h : b = false) : (bif b then x else y) = y := by subst h; rfl
theorem co_rules_ParseExpr : CallOk Tryz.prog 25 := fun _ _ => by kernel_rfl
set_option maxRecDepth 100000 in
theorem c_rules_ParseExpr (N : Nat) (w0 : World) (F0 : Mem) (hF : ∀ b o, F0 b = some o → w0.heap[b]? = some o) (hG : Glob F0) (x0 : List UInt8) (r : Expr × Int × Int) (h : rules_ParseExpr N x0 = some r) :
  Calls Tryz.prog 25 ([.string ⟨x0.toArray⟩] : List Value).toArray w0 (FRet w0 F0 fun F' v => ∃ (aq0_2 : Option Addr) (nq0_2 : Nat), v = (.tuple #[(.agg #[(.int .i64 r.1.Op), (.int .i64 r.1.Value), (.slice aq0_2 r.1.Kids.length nq0_2)]), (.int .i64 r.2.1), (.int .i64 r.2.2)]) ∧ LC r.1.Kids.length nq0_2 ∧ SlA tExpr F' aq0_2 r.1.Kids) := by
 have hs0 := HS.start hF
 refine calls_of (n := 21) (c := bodyOf Tryz.f25) Tryz.func25 (by kernel_rfl) (by kernel_rfl) (by kernel_rfl) ?_
 refine Sq ?_
 refine Rg [0, 1, 2] ?_
 refine RWP.alloc (dst := some 2) (ty := 0) (g := none) (by kernel_rfl) rfl (t := 33) (z := .agg #[.int .i64 0, .int .i64 0, .slice none 0 0]) (by kernel_rfl) (C := #[.int .i64 0, .int .i64 0, .slice none 0 0]) rfl hs0 (fun b2 w1 hs1 => ?_)
 refine V 3 27 (run_assign (x := .const (.int .i64 0)) (v := .int .i64 0) rfl) ?_
 refine V 4 3 (run_assign (x := .const (.int .i64 0)) (v := .int .i64 0) rfl) ?_
 refine RWP.nil ?_
 refine thenQ_nrm ?_
 refine Sq ?_
 refine Rg [0] ?_
 refine RWP.alloc (dst := some 5) (ty := 0) (g := none) (by kernel_rfl) rfl (t := 113) (z := .agg #[.int .i64 0, .int .i64 0, .slice none 0 0, .int .i64 0]) (by kernel_rfl) (C := #[.int .i64 0, .int .i64 0, .slice none 0 0, .int .i64 0]) rfl hs1 (fun b5 w2 hs2 => ?_)
 refine RWP.nil ?_
 refine thenQ_nrm ?_
 refine Sq ?_
 refine Rg [0, 1, 2, 3, 4, 5, 6, 7] ?_
 refine V 9 9 (run_move (x := .tmp 0) (v := .string ⟨x0.toArray⟩) rfl) ?_
 refine V 10 103 (run_makeFunc (fn := .func 85) (first := #[]) (cap := #[.tmp 5]) (fl := []) (cl := [.pointer (some ⟨b5, 0, none⟩)]) rfl rfl) ?_
 obtain ⟨X, hX⟩ : ∃ X : Own, X = [(some b2, .cells #[.int .i64 0, .int .i64 0, .slice none 0 0] 33 (0, 0))] := ⟨_, rfl⟩
 refine RWP.enter (dst := some 11) (ty := 88) (g := none) (by kernel_rfl) rfl (run_call (f := .func 78) (aos := #[.tmp 9, .tmp 10]) (ats := #[9, 103]) (g := 78) (first := #[]) (cap := #[]) (args := [.string ⟨x0.toArray⟩, .func (.func 85) #[] #[.pointer (some ⟨b5, 0, none⟩)]]) rfl co_rules_read rfl)
  (c_rules_read N hs2 x0 (g := 85) (cap := [.pointer (some ⟨b5, 0, none⟩)]) co_rules_ParseExpr_1 (fun o F' L' => match o with
   | none => ∃ (e : Expr) (at_ : Int) (a : Option Addr) (n : Nat), L' = (some b5, .cells #[.int .i64 e.Op, .int .i64 e.Value, .slice a e.Kids.length n, .int .i64 at_] 113 (0, 0)) :: X ∧ LC e.Kids.length n ∧ SlA tExpr F' a e.Kids ∧ some (e, (0 : Int), (0 : Int)) = some r
   | some x => (bif x.e_ != 0 then some (zExpr, x.e_, x.at_) else none) = some r ∧ (L' = X ∨ ∃ o, L' = (some b5, o) :: X)) ?_ ?_) ?_
 ·intro hc F'
  unfold rules_ParseExpr readAs at h
  rw [bif_true hc] at h
  exact ⟨h, .inr ⟨_, by rw [hX]⟩⟩
 ·intro hc
  unfold rules_ParseExpr readAs at h
  rw [bif_false hc] at h
  obtain ⟨l, hl, h⟩ := bind_some h
  obtain ⟨q, hq, h⟩ := bind_some h
  refine ⟨l, hl, fun w3 F3 be_ ba_ bp a n le3 hb hsl hs3 => ?_⟩
  have hs4 : HS w0 F0 w3 F3 ((some bp, .cells #[.slice a l.length n, .int .i64 0] 100 (0, 0)) :: (some b5, .cells #[.int .i64 0, .int .i64 0, .slice none 0 0, .int .i64 0] 113 (0, 0)) :: (some ba_, ba 0) :: (some be_, be 0) :: X) := by
   rw [hX]; exact (hs3.pick (k := 3) rfl).pick (k := 1) rfl
  refine (c_rules_ParseExpr_1 N (hG.mono (hs3.le)) bp { l_ := l, open_ := 0 } a n hb hsl b5 zPlaced none 0 LC.nil (.inl rfl) hs4 q hq).mono ?_
  rintro e w4 (⟨a1, F4, v, L', rfl, rfl, hs5, le5, aq, nq, az, nz, rfl, rfl, h1, h2, h3, h4⟩ | ⟨x, F4, rfl, rfl, hs5, le5⟩)
  ·exact .inl ⟨_, F4, _, rfl, ((hs5.drop 0).pick (k := 2) rfl).pick (k := 2) rfl, le5, _, _, az, nz, rfl, h3, h4, h⟩
  ·exact .inr ⟨x, F4, _, rfl, hs5, le5, h, .inl rfl⟩
 ·rintro e w5 ⟨o, F5, L5, rfl, hs5, le5, hK⟩
  cases o with
  | none =>
   obtain ⟨e, at_, a, n, rfl, hb, hsl, hr⟩ := hK
   simp only
   refine V 8 88 (run_move (x := .tmp 11) (v := .tuple #[.int .i64 0, .int .i64 0]) rfl) ?_
   refine V 12 27 (run_extract (x := .tmp 8) (vs := #[.int .i64 0, .int .i64 0]) (i := 0) (v := .int .i64 0) rfl rfl) ?_
   refine V 13 3 (run_extract (x := .tmp 8) (vs := #[.int .i64 0, .int .i64 0]) (i := 1) (v := .int .i64 0) rfl rfl) ?_
   refine V 6 27 (run_assign (x := .tmp 12) (v := .int .i64 0) rfl) ?_
   refine V 7 3 (run_assign (x := .tmp 13) (v := .int .i64 0) rfl) ?_
   refine RWP.nil ?_
   refine thenQ_nrm ?_
   refine Sq ?_
   refine Sq ?_
   refine Rg [0, 1] ?_
   refine V 14 27 (run_move (x := .tmp 6) (v := .int .i64 0) rfl) ?_
   refine V 15 4 (run_neq (t := 27) (t' := 27) (x := .tmp 14) (y := .const (.int .i64 0)) (k := .i64) (a := 0) (b := 0) rfl rfl) ?_
   refine RWP.nil ?_
   refine thenQ_nrm ?_
   refine CWP.cond0 (t := false) (by kernel_rfl) rfl rfl ?_
   refine CWP.skip (by kernel_rfl) ?_
   refine thenQ_nrm ?_
   refine Sq ?_
   refine Rg [0, 1, 2, 3, 4] ?_
   refine V 19 0 (run_fieldAddr (s := 113) (x := .tmp 5) (i := 0) (o := 0) (k := 3) (b := b5) (o0 := 0) rfl (by kernel_rfl) rfl (o1 := 0) rfl) ?_
   refine V 20 33 (run_load' (t := 33) (x := .tmp 19) (b := b5) (o := 0) (g := true) (s := 3) (C := #[.int .i64 e.Op, .int .i64 e.Value, .slice a e.Kids.length n, .int .i64 at_]) (v := .agg #[.int .i64 e.Op, .int .i64 e.Value, .slice a e.Kids.length n]) rfl (by kernel_rfl) (hs5.ownAt (k := 0) rfl) rfl rfl rfl) ?_
   subst hX
   refine RWP.store (ty := 0) (g := none) (by kernel_rfl) rfl (x := .tmp 2) (y := .tmp 20) (t := 33) (gg := true) (s := 3) (v := .agg #[.int .i64 e.Op, .int .i64 e.Value, .slice a e.Kids.length n]) (b := b2) (o := 0) (C := #[.int .i64 0, .int .i64 0, .slice none 0 0]) rfl rfl (by kernel_rfl) hs5 (k := 1) rfl rfl rfl rfl (C' := #[.int .i64 e.Op, .int .i64 e.Value, .slice a e.Kids.length n]) rfl (fun w6 hs6 => ?_)
   refine V 3 27 (run_assign (x := .const (.int .i64 0)) (v := .int .i64 0) rfl) ?_
   refine V 4 3 (run_assign (x := .const (.int .i64 0)) (v := .int .i64 0) rfl) ?_
   refine RWP.nil ?_
   refine thenQ_nrm ?_
   refine CWP.ret (by kernel_rfl) ?_
   obtain rfl := some_inj hr
   exact ⟨rfl, _, res_of (l := [.cell 2 33, .tmp 3, .tmp 4]) (by kernel_rfl) (vs := [.agg #[.int .i64 e.Op, .int .i64 e.Value, .slice a e.Kids.length n], .int .i64 0, .int .i64 0]) ⟨b2, 0, rfl, run_loadVar' (t := 33) (g := true) (s := 3) (by kernel_rfl) (hs6.ownAt (k := 1) rfl) rfl (by decide), rfl, rfl, trivial⟩, _, F5, rfl, hs6.clear, a, n, rfl, hb, hsl⟩
  | some x =>
   obtain ⟨hr, hL⟩ := hK
   have hs6 : HS w0 F0 w5 F5 X := by
    rcases hL with rfl | ⟨o, rfl⟩
    ·exact hs5
    ·exact hs5.drop 0
   clear hs5 hL
   cases hne : x.e_ != 0 with
   | false => rw [hne] at hr; cases hr
   | true =>
    rw [hne] at hr
    obtain rfl := some_inj hr
    simp only
    refine V 8 88 (run_move (x := .tmp 11) (v := .tuple #[.int .i64 x.e_, .int .i64 x.at_]) rfl) ?_
    refine V 12 27 (run_extract (x := .tmp 8) (vs := #[.int .i64 x.e_, .int .i64 x.at_]) (i := 0) (v := .int .i64 x.e_) rfl rfl) ?_
    refine V 13 3 (run_extract (x := .tmp 8) (vs := #[.int .i64 x.e_, .int .i64 x.at_]) (i := 1) (v := .int .i64 x.at_) rfl rfl) ?_
    refine V 6 27 (run_assign (x := .tmp 12) (v := .int .i64 x.e_) rfl) ?_
    refine V 7 3 (run_assign (x := .tmp 13) (v := .int .i64 x.at_) rfl) ?_
    refine RWP.nil ?_
    refine thenQ_nrm ?_
    refine Sq ?_
    refine Sq ?_
    refine Rg [0, 1] ?_
    refine V 14 27 (run_move (x := .tmp 6) (v := .int .i64 x.e_) rfl) ?_
    refine V 15 4 (run_neq (t := 27) (t' := 27) (x := .tmp 14) (y := .const (.int .i64 0)) (k := .i64) (a := x.e_) (b := 0) rfl rfl) ?_
    refine RWP.nil ?_
    refine thenQ_nrm ?_
    refine CWP.cond1 (t := x.e_ != 0) (by kernel_rfl) rfl hne ?_
    refine Sq ?_
    refine Rg [0, 1, 2, 3, 4, 5] ?_
    refine V 16 33 (run_build2 (t := 33) (parts := #[]) (vs := []) rfl (cs := [.int .i64 0, .int .i64 0, .slice none 0 0]) (by kernel_rfl)) ?_
    refine V 17 27 (run_move (x := .tmp 6) (v := .int .i64 x.e_) rfl) ?_
    refine V 18 3 (run_move (x := .tmp 7) (v := .int .i64 x.at_) rfl) ?_
    subst hX
    refine RWP.store (ty := 0) (g := none) (by kernel_rfl) rfl (x := .tmp 2) (y := .tmp 16) (t := 33) (gg := true) (s := 3) (v := .agg #[.int .i64 0, .int .i64 0, .slice none 0 0]) (b := b2) (o := 0) (C := #[.int .i64 0, .int .i64 0, .slice none 0 0]) rfl rfl (by kernel_rfl) hs6 (k := 0) rfl rfl rfl rfl (C' := #[.int .i64 0, .int .i64 0, .slice none 0 0]) rfl (fun w7 hs7 => ?_)
    refine V 3 27 (run_assign (x := .tmp 17) (v := .int .i64 x.e_) rfl) ?_
    refine V 4 3 (run_assign (x := .tmp 18) (v := .int .i64 x.at_) rfl) ?_
    refine RWP.nil ?_
    refine thenQ_nrm ?_
    refine CWP.ret (by kernel_rfl) ?_
    refine thenQ_ret ?_
    exact ⟨rfl, _, res_of (l := [.cell 2 33, .tmp 3, .tmp 4]) (by kernel_rfl) (vs := [.agg #[.int .i64 0, .int .i64 0, .slice none 0 0], .int .i64 x.e_, .int .i64 x.at_]) ⟨b2, 0, rfl, run_loadVar' (t := 33) (g := true) (s := 3) (by kernel_rfl) (hs7.ownAt (k := 0) rfl) rfl (by decide), rfl, rfl, trivial⟩, _, F5, rfl, hs7.clear, none, 0, rfl, LC.nil, .inl rfl⟩
theorem co_rules_Parse : CallOk Tryz.prog 22 := fun _ _ => by kernel_rfl
set_option maxRecDepth 100000 in
theorem c_rules_Parse (N : Nat) (w0 : World) (F0 : Mem) (hF : ∀ b o, F0 b = some o → w0.heap[b]? = some o) (hG : Glob F0) (x0 : List UInt8) (r : Book × Int × Int) (h : rules_Parse N x0 = some r) :
  Calls Tryz.prog 22 ([.string ⟨x0.toArray⟩] : List Value).toArray w0 (FRet w0 F0 fun F' v => ∃ (aq0_0 : Option Addr) (nq0_0 : Nat) (aq0_1 : Option Addr) (nq0_1 : Nat) (aq0_2 : Option Addr) (nq0_2 : Nat) (aq0_3 : Option Addr) (nq0_3 : Nat), v = (.tuple #[(.agg #[(.slice aq0_0 r.1.Points.length nq0_0), (.slice aq0_1 r.1.Multipliers.length nq0_1), (.slice aq0_2 r.1.Penalties.length nq0_2), (.slice aq0_3 r.1.Repeats.length nq0_3)]), (.int .i64 r.2.1), (.int .i64 r.2.2)]) ∧ LC r.1.Points.length nq0_0 ∧ SlA tClause F' aq0_0 r.1.Points ∧ LC r.1.Multipliers.length nq0_1 ∧ SlA tClause F' aq0_1 r.1.Multipliers ∧ LC r.1.Penalties.length nq0_2 ∧ SlA tClause F' aq0_2 r.1.Penalties ∧ LC r.1.Repeats.length nq0_3 ∧ SlA tExpr F' aq0_3 r.1.Repeats) := by
 have hs0 := HS.start hF
 refine calls_of (n := 20) (c := bodyOf Tryz.f22) Tryz.func22 (by kernel_rfl) (by kernel_rfl) (by kernel_rfl) ?_
 refine Sq ?_
 refine Rg [0, 1, 2] ?_
 refine RWP.alloc (dst := some 2) (ty := 0) (g := none) (by kernel_rfl) rfl (t := 26) (z := .agg #[.slice none 0 0, .slice none 0 0, .slice none 0 0, .slice none 0 0]) (by kernel_rfl) (C := #[.slice none 0 0, .slice none 0 0, .slice none 0 0, .slice none 0 0]) rfl hs0 (fun b2 w1 hs1 => ?_)
 refine V 3 27 (run_assign (x := .const (.int .i64 0)) (v := .int .i64 0) rfl) ?_
 refine V 4 3 (run_assign (x := .const (.int .i64 0)) (v := .int .i64 0) rfl) ?_
 refine RWP.nil ?_
 refine thenQ_nrm ?_
 refine Sq ?_
 refine Rg [0] ?_
 refine RWP.alloc (dst := some 5) (ty := 0) (g := none) (by kernel_rfl) rfl (t := 26) (z := .agg #[.slice none 0 0, .slice none 0 0, .slice none 0 0, .slice none 0 0]) (by kernel_rfl) (C := #[.slice none 0 0, .slice none 0 0, .slice none 0 0, .slice none 0 0]) rfl hs1 (fun b5 w2 hs2 => ?_)
 refine RWP.nil ?_
 refine thenQ_nrm ?_
 refine Sq ?_
 refine Rg [0, 1, 2, 3, 4, 5, 6, 7] ?_
 refine V 9 9 (run_move (x := .tmp 0) (v := .string ⟨x0.toArray⟩) rfl) ?_
 refine V 10 103 (run_makeFunc (fn := .func 79) (first := #[]) (cap := #[.tmp 5]) (fl := []) (cl := [.pointer (some ⟨b5, 0, none⟩)]) rfl rfl) ?_
 obtain ⟨X, hX⟩ : ∃ X : Own, X = [(some b2, .cells #[.slice none 0 0, .slice none 0 0, .slice none 0 0, .slice none 0 0] 26 (0, 0))] := ⟨_, rfl⟩
 refine RWP.enter (dst := some 11) (ty := 88) (g := none) (by kernel_rfl) rfl (run_call (f := .func 78) (aos := #[.tmp 9, .tmp 10]) (ats := #[9, 103]) (g := 78) (first := #[]) (cap := #[]) (args := [.string ⟨x0.toArray⟩, .func (.func 79) #[] #[.pointer (some ⟨b5, 0, none⟩)]]) rfl co_rules_read rfl)
  (c_rules_read N hs2 x0 (g := 79) (cap := [.pointer (some ⟨b5, 0, none⟩)]) co_rules_Parse_1 (fun o F' L' => match o with
   | none => ∃ (e : Book) (a0 : Option Addr) (n0 : Nat) (a1 : Option Addr) (n1 : Nat) (a2 : Option Addr) (n2 : Nat) (a3 : Option Addr) (n3 : Nat), L' = (some b5, .cells #[.slice a0 e.Points.length n0, .slice a1 e.Multipliers.length n1, .slice a2 e.Penalties.length n2, .slice a3 e.Repeats.length n3] 26 (0, 0)) :: X ∧ LC e.Points.length n0 ∧ SlA tClause F' a0 e.Points ∧ LC e.Multipliers.length n1 ∧ SlA tClause F' a1 e.Multipliers ∧ LC e.Penalties.length n2 ∧ SlA tClause F' a2 e.Penalties ∧ LC e.Repeats.length n3 ∧ SlA tExpr F' a3 e.Repeats ∧ some (e, (0 : Int), (0 : Int)) = some r
   | some x => (bif x.e_ != 0 then some (zBook, x.e_, x.at_) else none) = some r ∧ (L' = X ∨ ∃ o, L' = (some b5, o) :: X)) ?_ ?_) ?_
 ·intro hc F'
  unfold rules_Parse readAs at h
  rw [bif_true hc] at h
  exact ⟨h, .inr ⟨_, by rw [hX]⟩⟩
 ·intro hc
  unfold rules_Parse readAs at h
  rw [bif_false hc] at h
  obtain ⟨l, hl, h⟩ := bind_some h
  obtain ⟨q, hq, h⟩ := bind_some h
  refine ⟨l, hl, fun w3 F3 be_ ba_ bp a n le3 hb hsl hs3 => ?_⟩
  have hs4 : HS w0 F0 w3 F3 ((some bp, .cells #[.slice a l.length n, .int .i64 0] 100 (0, 0)) :: (some b5, .cells #[.slice none 0 0, .slice none 0 0, .slice none 0 0, .slice none 0 0] 26 (0, 0)) :: (none, .cells #[] 0 (0, 0)) :: (none, .cells #[] 0 (0, 0)) :: (none, .cells #[] 0 (0, 0)) :: (none, .cells #[] 0 (0, 0)) :: (some ba_, ba 0) :: (some be_, be 0) :: X) := by
   have h0 : HS w0 F0 w3 F3 ((some bp, .cells #[.slice a l.length n, .int .i64 0] 100 (0, 0)) :: (some b5, .cells #[.slice none 0 0, .slice none 0 0, .slice none 0 0, .slice none 0 0] 26 (0, 0)) :: (some ba_, ba 0) :: (some be_, be 0) :: X) := by
    rw [hX]; exact (hs3.pick (k := 3) rfl).pick (k := 1) rfl
   exact (((((h0.dummy (.cells #[] 0 (0, 0))).dummy (.cells #[] 0 (0, 0))).dummy (.cells #[] 0 (0, 0))).dummy (.cells #[] 0 (0, 0))).pick (k := 5) rfl).pick (k := 5) rfl
  refine (c_rules_Parse_1 N (hG.mono (hs3.le)) bp { l_ := l, open_ := 0 } a n hb hsl b5 zBook none 0 (none, .cells #[] 0 (0, 0)) none 0 (none, .cells #[] 0 (0, 0)) none 0 (none, .cells #[] 0 (0, 0)) none 0 (none, .cells #[] 0 (0, 0)) (RowR.nil _ _ _ _) (RowR.nil _ _ _ _) (RowR.nil _ _ _ _) (RowR.nil _ _ _ _) hs4 q hq).mono ?_
  rintro e w4 (⟨q1, F4, v, L', rfl, rfl, hs5, le5, aq, nq, a0, n0, e0, a1, n1, e1, a2, n2, e2, a3, n3, e3, rfl, rfl, h1, h2, r0, r1, r2, r3⟩ | ⟨x, F4, rfl, rfl, hs5, le5⟩)
  ·have hs6 := hs5.drop 0
   obtain ⟨G0, hg0, lg0, s0⟩ : ∃ Fq, HS w0 F0 w4 Fq ((some b5, .cells #[.slice a0 q1.2.Points.length n0, .slice a1 q1.2.Multipliers.length n1, .slice a2 q1.2.Penalties.length n2, .slice a3 q1.2.Repeats.length n3] 26 (0, 0)) :: e1 :: e2 :: e3 :: (some ba_, ba 0) :: (some be_, be 0) :: X) ∧ Mem.le F4 Fq ∧ SlA tClause Fq a0 q1.2.Points := HS.freezeRow hs6 (k := 1) rfl r0
   obtain ⟨G1, hg1, lg1, s1⟩ : ∃ Fq, HS w0 F0 w4 Fq ((some b5, .cells #[.slice a0 q1.2.Points.length n0, .slice a1 q1.2.Multipliers.length n1, .slice a2 q1.2.Penalties.length n2, .slice a3 q1.2.Repeats.length n3] 26 (0, 0)) :: e2 :: e3 :: (some ba_, ba 0) :: (some be_, be 0) :: X) ∧ Mem.le G0 Fq ∧ SlA tClause Fq a1 q1.2.Multipliers := HS.freezeRow hg0 (k := 1) rfl (r1.mono lg0)
   obtain ⟨G2, hg2, lg2, s2⟩ : ∃ Fq, HS w0 F0 w4 Fq ((some b5, .cells #[.slice a0 q1.2.Points.length n0, .slice a1 q1.2.Multipliers.length n1, .slice a2 q1.2.Penalties.length n2, .slice a3 q1.2.Repeats.length n3] 26 (0, 0)) :: e3 :: (some ba_, ba 0) :: (some be_, be 0) :: X) ∧ Mem.le G1 Fq ∧ SlA tClause Fq a2 q1.2.Penalties := HS.freezeRow hg1 (k := 1) rfl (r2.mono (lg0.trans lg1))
   obtain ⟨G3, hg3, lg3, s3⟩ : ∃ Fq, HS w0 F0 w4 Fq ((some b5, .cells #[.slice a0 q1.2.Points.length n0, .slice a1 q1.2.Multipliers.length n1, .slice a2 q1.2.Penalties.length n2, .slice a3 q1.2.Repeats.length n3] 26 (0, 0)) :: (some ba_, ba 0) :: (some be_, be 0) :: X) ∧ Mem.le G2 Fq ∧ SlA tExpr Fq a3 q1.2.Repeats := HS.freezeRow hg2 (k := 1) rfl (r3.mono ((lg0.trans lg1).trans lg2))
   exact .inl ⟨_, G3, _, rfl, (hg3.pick (k := 2) rfl).pick (k := 2) rfl, (((le5.trans lg0).trans lg1).trans lg2).trans lg3, q1.2, a0, n0, a1, n1, a2, n2, a3, n3, rfl, r0.bound, s0.mono ((lg1.trans lg2).trans lg3), r1.bound, s1.mono (lg2.trans lg3), r2.bound, s2.mono lg3, r3.bound, s3, h⟩
  ·exact .inr ⟨x, F4, _, rfl, hs5, le5, h, .inl rfl⟩
 ·rintro e w5 ⟨o, F5, L5, rfl, hs5, le5, hK⟩
  cases o with
  | none =>
   obtain ⟨e, a0, n0, a1, n1, a2, n2, a3, n3, rfl, hb0, hl0, hb1, hl1, hb2, hl2, hb3, hl3, hr⟩ := hK
   simp only
   refine V 8 88 (run_move (x := .tmp 11) (v := .tuple #[.int .i64 0, .int .i64 0]) rfl) ?_
   refine V 12 27 (run_extract (x := .tmp 8) (vs := #[.int .i64 0, .int .i64 0]) (i := 0) (v := .int .i64 0) rfl rfl) ?_
   refine V 13 3 (run_extract (x := .tmp 8) (vs := #[.int .i64 0, .int .i64 0]) (i := 1) (v := .int .i64 0) rfl rfl) ?_
   refine V 6 27 (run_assign (x := .tmp 12) (v := .int .i64 0) rfl) ?_
   refine V 7 3 (run_assign (x := .tmp 13) (v := .int .i64 0) rfl) ?_
   refine RWP.nil ?_
   refine thenQ_nrm ?_
   refine Sq ?_
   refine Sq ?_
   refine Rg [0, 1] ?_
   refine V 14 27 (run_move (x := .tmp 6) (v := .int .i64 0) rfl) ?_
   refine V 15 4 (run_neq (t := 27) (t' := 27) (x := .tmp 14) (y := .const (.int .i64 0)) (k := .i64) (a := 0) (b := 0) rfl rfl) ?_
   refine RWP.nil ?_
   refine thenQ_nrm ?_
   refine CWP.cond0 (t := false) (by kernel_rfl) rfl rfl ?_
   refine CWP.skip (by kernel_rfl) ?_
   refine thenQ_nrm ?_
   refine Sq ?_
   refine Rg [0, 1, 2, 3] ?_
   refine V 19 26 (run_load' (t := 26) (x := .tmp 5) (b := b5) (o := 0) (g := true) (s := 4) (C := #[.slice a0 e.Points.length n0, .slice a1 e.Multipliers.length n1, .slice a2 e.Penalties.length n2, .slice a3 e.Repeats.length n3]) (v := .agg #[.slice a0 e.Points.length n0, .slice a1 e.Multipliers.length n1, .slice a2 e.Penalties.length n2, .slice a3 e.Repeats.length n3]) rfl (by kernel_rfl) (hs5.ownAt (k := 0) rfl) rfl rfl rfl) ?_
   subst hX
   refine RWP.store (ty := 0) (g := none) (by kernel_rfl) rfl (x := .tmp 2) (y := .tmp 19) (t := 26) (gg := true) (s := 4) (v := .agg #[.slice a0 e.Points.length n0, .slice a1 e.Multipliers.length n1, .slice a2 e.Penalties.length n2, .slice a3 e.Repeats.length n3]) (b := b2) (o := 0) (C := #[.slice none 0 0, .slice none 0 0, .slice none 0 0, .slice none 0 0]) rfl rfl (by kernel_rfl) hs5 (k := 1) rfl rfl rfl rfl (C' := #[.slice a0 e.Points.length n0, .slice a1 e.Multipliers.length n1, .slice a2 e.Penalties.length n2, .slice a3 e.Repeats.length n3]) rfl (fun w6 hs6 => ?_)
   refine V 3 27 (run_assign (x := .const (.int .i64 0)) (v := .int .i64 0) rfl) ?_
   refine V 4 3 (run_assign (x := .const (.int .i64 0)) (v := .int .i64 0) rfl) ?_
   refine RWP.nil ?_
   refine thenQ_nrm ?_
   refine CWP.ret (by kernel_rfl) ?_
   obtain rfl := some_inj hr
   exact ⟨rfl, _, res_of (l := [.cell 2 26, .tmp 3, .tmp 4]) (by kernel_rfl) (vs := [.agg #[.slice a0 e.Points.length n0, .slice a1 e.Multipliers.length n1, .slice a2 e.Penalties.length n2, .slice a3 e.Repeats.length n3], .int .i64 0, .int .i64 0]) ⟨b2, 0, rfl, run_loadVar' (t := 26) (g := true) (s := 4) (by kernel_rfl) (hs6.ownAt (k := 1) rfl) rfl (by decide), rfl, rfl, trivial⟩, _, F5, rfl, hs6.clear, a0, n0, a1, n1, a2, n2, a3, n3, rfl, hb0, hl0, hb1, hl1, hb2, hl2, hb3, hl3⟩
  | some x =>
   obtain ⟨hr, hL⟩ := hK
   have hs6 : HS w0 F0 w5 F5 X := by
    rcases hL with rfl | ⟨o, rfl⟩
    ·exact hs5
    ·exact hs5.drop 0
   clear hs5 hL
   cases hne : x.e_ != 0 with
   | false => rw [hne] at hr; cases hr
   | true =>
    rw [hne] at hr
    obtain rfl := some_inj hr
    simp only
    refine V 8 88 (run_move (x := .tmp 11) (v := .tuple #[.int .i64 x.e_, .int .i64 x.at_]) rfl) ?_
    refine V 12 27 (run_extract (x := .tmp 8) (vs := #[.int .i64 x.e_, .int .i64 x.at_]) (i := 0) (v := .int .i64 x.e_) rfl rfl) ?_
    refine V 13 3 (run_extract (x := .tmp 8) (vs := #[.int .i64 x.e_, .int .i64 x.at_]) (i := 1) (v := .int .i64 x.at_) rfl rfl) ?_
    refine V 6 27 (run_assign (x := .tmp 12) (v := .int .i64 x.e_) rfl) ?_
    refine V 7 3 (run_assign (x := .tmp 13) (v := .int .i64 x.at_) rfl) ?_
    refine RWP.nil ?_
    refine thenQ_nrm ?_
    refine Sq ?_
    refine Sq ?_
    refine Rg [0, 1] ?_
    refine V 14 27 (run_move (x := .tmp 6) (v := .int .i64 x.e_) rfl) ?_
    refine V 15 4 (run_neq (t := 27) (t' := 27) (x := .tmp 14) (y := .const (.int .i64 0)) (k := .i64) (a := x.e_) (b := 0) rfl rfl) ?_
    refine RWP.nil ?_
    refine thenQ_nrm ?_
    refine CWP.cond1 (t := x.e_ != 0) (by kernel_rfl) rfl hne ?_
    refine Sq ?_
    refine Rg [0, 1, 2, 3, 4, 5] ?_
    refine V 16 26 (run_build2 (t := 26) (parts := #[]) (vs := []) rfl (cs := [.slice none 0 0, .slice none 0 0, .slice none 0 0, .slice none 0 0]) (by kernel_rfl)) ?_
    refine V 17 27 (run_move (x := .tmp 6) (v := .int .i64 x.e_) rfl) ?_
    refine V 18 3 (run_move (x := .tmp 7) (v := .int .i64 x.at_) rfl) ?_
    subst hX
    refine RWP.store (ty := 0) (g := none) (by kernel_rfl) rfl (x := .tmp 2) (y := .tmp 16) (t := 26) (gg := true) (s := 4) (v := .agg #[.slice none 0 0, .slice none 0 0, .slice none 0 0, .slice none 0 0]) (b := b2) (o := 0) (C := #[.slice none 0 0, .slice none 0 0, .slice none 0 0, .slice none 0 0]) rfl rfl (by kernel_rfl) hs6 (k := 0) rfl rfl rfl rfl (C' := #[.slice none 0 0, .slice none 0 0, .slice none 0 0, .slice none 0 0]) rfl (fun w7 hs7 => ?_)
    refine V 3 27 (run_assign (x := .tmp 17) (v := .int .i64 x.e_) rfl) ?_
    refine V 4 3 (run_assign (x := .tmp 18) (v := .int .i64 x.at_) rfl) ?_
    refine RWP.nil ?_
    refine thenQ_nrm ?_
    refine CWP.ret (by kernel_rfl) ?_
    refine thenQ_ret ?_
    exact ⟨rfl, _, res_of (l := [.cell 2 26, .tmp 3, .tmp 4]) (by kernel_rfl) (vs := [.agg #[.slice none 0 0, .slice none 0 0, .slice none 0 0, .slice none 0 0], .int .i64 x.e_, .int .i64 x.at_]) ⟨b2, 0, rfl, run_loadVar' (t := 26) (g := true) (s := 4) (by kernel_rfl) (hs7.ownAt (k := 0) rfl) rfl (by decide), rfl, rfl, trivial⟩, _, F5, rfl, hs7.clear, none, 0, none, 0, none, 0, none, 0, rfl, LC.nil, .inl rfl, LC.nil, .inl rfl, LC.nil, .inl rfl, LC.nil, .inl rfl⟩
end Go.Proofs.YtaihlcdkcampbaaGreatDoor
namespace Go.Proofs.YtaihlcdkcampbaaGreatDoor
open Go.Proofs
def law06_awake0 (N : Nat)  : Option Bool :=
 ((rules_ParseExpr N ([49, 32, 43, 32, 50, 32, 42, 32, 51, 32, 61, 32, 55, 32, 97, 110, 100, 32, 110, 111, 116, 32, 98, 97, 110, 100, 32, 60, 32, 50] : List UInt8)).bind fun r21 => ((rules_PrintExpr N r21.1).bind fun r34 => ((rules_Parse N ([112, 111, 105, 110, 116, 115, 58, 32, 98, 97, 110, 100, 32, 61, 32, 49, 32, 61, 62, 32, 50] : List UInt8)).bind fun r42 => ((rules_Parse N ([112, 111, 105, 110, 116, 115, 58, 32, 98, 97, 110, 100, 32, 61, 62, 32, 50] : List UInt8)).bind fun r55 => ((mk0 0 14).bind fun r68 => ((idx r68 0).bind fun x78 => ((rules_Points N r42.1 (r68.set (0 : Int).toNat (1))).bind fun r97 => ((rules_ParseExpr N ([105, 102, 40, 98, 97, 110, 100, 32, 61, 32, 98, 97, 110, 100, 44, 32, 48, 32, 43, 32, 122, 111, 110, 101, 44, 32, 55, 41] : List UInt8)).bind fun r105 => ((rules_Simplify N r105.1).bind fun r118 => (bif ((r21.2.1 != 0) || ((r34.2 != 0) || ((r42.2.1 != 0) || ((r55.2.1 != 61) || ((r97.2 != 0) || ((r105.2.1 != 0) || ((r118.2 != 0) || (r55.2.2 != 8)))))))) then some false else some ((r21.1.Op == 4) && ((r34.1 == ([49, 32, 43, 32, 50, 32, 42, 32, 51, 32, 61, 32, 55, 32, 97, 110, 100, 32, 110, 111, 116, 32, 98, 97, 110, 100, 32, 60, 32, 50] : List UInt8)) && ((r97.1 == 2) && ((r118.1.Op == 2) && (r118.1.Value == 7)))))))))))))))
theorem co_law06_awake0 : CallOk Tryz.prog 21 := fun _ _ => by kernel_rfl
theorem c_law06_awake0 (N : Nat) (w0 : World) (F0 : Mem) (hF : ∀ b o, F0 b = some o → w0.heap[b]? = some o) (hG : Glob F0)  (r : Bool) (h : law06_awake0 N  = some r) :
  Calls Tryz.prog 21 ([] : List Value).toArray w0 (FRet w0 F0 fun F' v => v = (.bool r)) := by
 have hs0 := HS.start hF
 refine Go 110 Tryz.func21 ?_
 refine Sq (Rg [0] ?_)
 refine Vs 1 ?_
 refine Nss (Rg [0, 1, 2, 3, 4, 5, 6, 7, 8] ?_)
 obtain ⟨r21, hr22, h23⟩ := bind_some h
 refine Cl' co_rules_ParseExpr hs0 (c_rules_ParseExpr N w0 F0 hs0.pers hG (([49, 32, 43, 32, 50, 32, 42, 32, 51, 32, 61, 32, 55, 32, 97, 110, 100, 32, 110, 111, 116, 32, 98, 97, 110, 100, 32, 60, 32, 50] : List UInt8)) _ hr22) ?_
 rintro _ F1 w25 hs26 le27 ⟨ar21_0_2, nr21_0_2, rfl, hbr21_0_2, hsr21_0_2⟩
 refine Vs 4 ?_
 refine Al' 33 #[(vi 0), (vi 0), (.slice none ([] : List Expr).length 0)] hs26 (fun b29 w30 hs31 => ?_)
 refine St0 (kExpr r21.1 ar21_0_2 nr21_0_2) hs31 (fun w32 hs33 => ?_)
 refine Vs 2 ?_
 refine Nss (Rg [0, 1, 2, 3, 4, 5, 6] ?_)
 refine Ld hs33.at0 ?_
 obtain ⟨r34, hr35, h36⟩ := bind_some h23
 refine Cl' co_rules_PrintExpr hs33 (c_rules_PrintExpr N w32 F1 hs33.pers (hG.mono le27) (r21.1) ar21_0_2 nr21_0_2 hbr21_0_2 hsr21_0_2 _ hr35) ?_
 rintro _ F2 w38 hs39 le40 rfl
 refine Vs 5 ?_
 refine Nss (Rg [0, 1, 2, 3, 4, 5, 6, 7, 8] ?_)
 obtain ⟨r42, hr43, h44⟩ := bind_some h36
 refine Cl' co_rules_Parse hs39 (c_rules_Parse N w38 F2 hs39.pers (hG.mono (le27.trans le40)) (([112, 111, 105, 110, 116, 115, 58, 32, 98, 97, 110, 100, 32, 61, 32, 49, 32, 61, 62, 32, 50] : List UInt8)) _ hr43) ?_
 rintro _ F3 w46 hs47 le48 ⟨ar42_0_0, nr42_0_0, ar42_0_1, nr42_0_1, ar42_0_2, nr42_0_2, ar42_0_3, nr42_0_3, rfl, hbr42_0_0, hsr42_0_0, hbr42_0_1, hsr42_0_1, hbr42_0_2, hsr42_0_2, hbr42_0_3, hsr42_0_3⟩
 refine Vs 4 ?_
 refine Al' 26 #[(.slice none ([] : List Clause).length 0), (.slice none ([] : List Clause).length 0), (.slice none ([] : List Clause).length 0), (.slice none ([] : List Expr).length 0)] hs47 (fun b50 w51 hs52 => ?_)
 refine St0 (kBook r42.1 ar42_0_0 nr42_0_0 ar42_0_1 nr42_0_1 ar42_0_2 nr42_0_2 ar42_0_3 nr42_0_3) hs52 (fun w53 hs54 => ?_)
 refine Vs 2 ?_
 refine Nss (Rg [0, 1, 2, 3, 4, 5, 6, 7, 8] ?_)
 obtain ⟨r55, hr56, h57⟩ := bind_some h44
 refine Cl' co_rules_Parse hs54 (c_rules_Parse N w53 F3 hs54.pers (hG.mono ((le27.trans le40).trans le48)) (([112, 111, 105, 110, 116, 115, 58, 32, 98, 97, 110, 100, 32, 61, 62, 32, 50] : List UInt8)) _ hr56) ?_
 rintro _ F4 w59 hs60 le61 ⟨ar55_0_0, nr55_0_0, ar55_0_1, nr55_0_1, ar55_0_2, nr55_0_2, ar55_0_3, nr55_0_3, rfl, hbr55_0_0, hsr55_0_0, hbr55_0_1, hsr55_0_1, hbr55_0_2, hsr55_0_2, hbr55_0_3, hsr55_0_3⟩
 refine Vs 4 ?_
 refine Al' 26 #[(.slice none ([] : List Clause).length 0), (.slice none ([] : List Clause).length 0), (.slice none ([] : List Clause).length 0), (.slice none ([] : List Expr).length 0)] hs60 (fun b63 w64 hs65 => ?_)
 refine St0 (kBook r55.1 ar55_0_0 nr55_0_0 ar55_0_1 nr55_0_1 ar55_0_2 nr55_0_2 ar55_0_3 nr55_0_3) hs65 (fun w66 hs67 => ?_)
 refine Vs 2 ?_
 refine Nss (Rg [0, 1] ?_)
 obtain ⟨r68, hm69, h70⟩ := bind_some h57
 refine RWP.makeSlice (dst := (some 40)) (ty := 47) (g := none) (by kernel_rfl) rfl (x := (.const (vi 14))) (y := (.const (vi 14))) (t := 47) (by_ := 8) (z := (vi 0)) (T := tInt) (E := 3) rfl rfl (by kernel_rfl) (by decide) (by kernel_rfl) (z0 := 0) (fun _ => rfl) (by decide) hs67 hm69 (fun b71 n72 C73 w74 (hs75 : HS w0 F0 w74 F4 [(some b71, .cells C73 3 (0, 0)), (sb b63 (kBook r55.1 ar55_0_0 nr55_0_0 ar55_0_1 nr55_0_1 ar55_0_2 nr55_0_2 ar55_0_3 nr55_0_3) 26), (sb b50 (kBook r42.1 ar42_0_0 nr42_0_0 ar42_0_1 nr42_0_1 ar42_0_2 nr42_0_2 ar42_0_3 nr42_0_3) 26), (sb b29 (kExpr r21.1 ar21_0_2 nr21_0_2) 33)]) hr76 => ?_)
 refine Vs 1 ?_
 refine Nss (Rg [0, 1, 2] ?_)
 refine Vs 1 ?_
 obtain ⟨x78, hx79, h81⟩ := bind_some h70
 obtain ⟨hi80, hx79'⟩ := idx_spec hx79
 obtain ⟨b82, C83, ha84, he85, hE86⟩ := RowR.open hr76 hx79'
 cases ha84
 cases he85
 have hc88 := hE86 _ _ hx79'
 refine Ix0 hi80 ?_
 refine RWP.storeRow (ty := 0) (g := none) (by kernel_rfl) rfl (x := (.tmp 42)) (y := (.const (vi 1))) (t := 3) (v := (vi 1)) (gg := false) (b := b71) (j := (0 : Int).toNat) (C := C73) (T := tInt) (E := 3) (u := (1)) rfl rfl (by kernel_rfl) hs75 (k := 0) rfl hr76 hx79' rfl rfl (fun C89 w90 (hs91 : HS w0 F0 w90 F4 [(some b71, .cells C89 3 (0, 0)), (sb b63 (kBook r55.1 ar55_0_0 nr55_0_0 ar55_0_1 nr55_0_1 ar55_0_2 nr55_0_2 ar55_0_3 nr55_0_3) 26), (sb b50 (kBook r42.1 ar42_0_0 nr42_0_0 ar42_0_1 nr42_0_1 ar42_0_2 nr42_0_2 ar42_0_3 nr42_0_3) 26), (sb b29 (kExpr r21.1 ar21_0_2 nr21_0_2) 33)]) hr92 => ?_)
 refine Nss (Rg [0, 1, 2, 3, 4, 5, 6, 7] ?_)
 refine Ld hs91.at2 ?_
 refine V 45 47 (mv 12 (.slice (some ⟨b71, 0, none⟩) (r68.set (0 : Int).toNat (1)).length n72) (len_set rfl)) ?_
 have hb96 := RowR.bound hr92
 obtain ⟨F5, hs93, le94, hs95⟩ := hs91.fr0 hr92
 obtain ⟨r97, hr98, h99⟩ := bind_some h81
 refine Cl' co_rules_Points hs93 (c_rules_Points N w90 F5 hs93.pers (r42.1) ar42_0_0 nr42_0_0 hbr42_0_0 (SlA.mono hsr42_0_0 (le61.trans le94)) ar42_0_1 nr42_0_1 hbr42_0_1 (SlA.mono hsr42_0_1 (le61.trans le94)) ar42_0_2 nr42_0_2 hbr42_0_2 (SlA.mono hsr42_0_2 (le61.trans le94)) ar42_0_3 nr42_0_3 hbr42_0_3 (SlA.mono hsr42_0_3 (le61.trans le94)) ((r68.set (0 : Int).toNat (1))) (some ⟨b71, 0, none⟩) n72 hb96 hs95 _ hr98) ?_
 rintro _ F6 w101 hs102 le103 rfl
 refine Vs 5 ?_
 refine Nss (Rg [0, 1, 2, 3, 4, 5, 6, 7, 8] ?_)
 obtain ⟨r105, hr106, h107⟩ := bind_some h99
 refine Cl' co_rules_ParseExpr hs102 (c_rules_ParseExpr N w101 F6 hs102.pers (hG.mono (((((le27.trans le40).trans le48).trans le61).trans le94).trans le103)) (([105, 102, 40, 98, 97, 110, 100, 32, 61, 32, 98, 97, 110, 100, 44, 32, 48, 32, 43, 32, 122, 111, 110, 101, 44, 32, 55, 41] : List UInt8)) _ hr106) ?_
 rintro _ F7 w109 hs110 le111 ⟨ar105_0_2, nr105_0_2, rfl, hbr105_0_2, hsr105_0_2⟩
 refine Vs 4 ?_
 refine Al' 33 #[(vi 0), (vi 0), (.slice none ([] : List Expr).length 0)] hs110 (fun b113 w114 hs115 => ?_)
 refine St0 (kExpr r105.1 ar105_0_2 nr105_0_2) hs115 (fun w116 hs117 => ?_)
 refine Vs 2 ?_
 refine Nss (Rg [0, 1, 2, 3, 4, 5, 6, 7] ?_)
 refine Ld hs117.at0 ?_
 obtain ⟨r118, hr119, h120⟩ := bind_some h107
 refine Cl' co_rules_Simplify hs117 (c_rules_Simplify N w116 F7 hs117.pers (r105.1) ar105_0_2 nr105_0_2 hbr105_0_2 hsr105_0_2 _ hr119) ?_
 rintro _ F8 w122 hs123 le124 ⟨ar118_0_2, nr118_0_2, rfl, hbr118_0_2, hsr118_0_2⟩
 refine Vs 3 ?_
 refine Al' 33 #[(vi 0), (vi 0), (.slice none ([] : List Expr).length 0)] hs123 (fun b126 w127 hs128 => ?_)
 refine St0 (kExpr r118.1 ar118_0_2 nr118_0_2) hs128 (fun w129 hs130 => ?_)
 refine Vs 1 ?_
 refine Nss ?_
 refine Sq (Rg [0, 1, 2, 3, 4, 5, 6, 7, 8, 9, 10, 11, 12, 13, 14, 15, 16, 17, 18, 19, 20, 21, 22, 23, 24, 25, 26, 27, 28, 29] ?_)
 refine RWP.cut (fun f w => ∃ (F9 : Mem), HS w0 F0 w F9 [(sb b126 (kExpr r118.1 ar118_0_2 nr118_0_2) 33), (sb b29 (kExpr r21.1 ar21_0_2 nr21_0_2) 33)] ∧ Mem.le F8 F9 ∧ FI f [] [(1, (pt b29 0)), (4, (.string ⟨(r34.1).toArray⟩)), (13, (vi r97.1)), (18, (pt b126 0)), (88, (.bool ((r21.2.1 != 0) || ((r34.2 != 0) || ((r42.2.1 != 0) || ((r55.2.1 != 61) || ((r97.2 != 0) || ((r105.2.1 != 0) || ((r118.2 != 0) || (r55.2.2 != 8))))))))))]) ?_ ?_
 ·refine Vs 3 ?_
  refine RWP.split (r21.2.1 != 0) (fun hb140 => ?_) (fun hb140 => ?_)
  ·refine Ss hb140 2 ?_
   refine Pk1 hb140 ?_
   refine Vs 1 ?_
   refine Ss (rfl : true = true) 2 ?_
   refine Pk1 (rfl : true = true) ?_
   refine Vs 1 ?_
   refine Ss (rfl : true = true) 2 ?_
   refine Pk1 (rfl : true = true) ?_
   refine Vs 1 ?_
   refine Ss (rfl : true = true) 2 ?_
   refine Pk1 (rfl : true = true) ?_
   refine Vs 1 ?_
   refine Ss (rfl : true = true) 2 ?_
   refine Pk1 (rfl : true = true) ?_
   refine Vs 1 ?_
   refine Ss (rfl : true = true) 2 ?_
   refine Pk1 (rfl : true = true) ?_
   refine Vs 1 ?_
   refine Ss (rfl : true = true) 2 ?_
   refine Pk1 (rfl : true = true) ?_
   exact RWP.nil ⟨rfl, F8, hs130.dr1.dr1.dr1, (Mem.le.refl _), (fJ ⟨rfl, rfl, rfl, rfl, (congrArg Value.bool (or_t hb140 (rfl))), trivial⟩)⟩
  ·refine Vgs hb140 2 ?_
   refine Pk0 hb140 ?_
   refine Vs 1 ?_
   refine RWP.split (r34.2 != 0) (fun hb141 => ?_) (fun hb141 => ?_)
   ·refine Ss hb141 2 ?_
    refine Pk1 hb141 ?_
    refine Vs 1 ?_
    refine Ss (rfl : true = true) 2 ?_
    refine Pk1 (rfl : true = true) ?_
    refine Vs 1 ?_
    refine Ss (rfl : true = true) 2 ?_
    refine Pk1 (rfl : true = true) ?_
    refine Vs 1 ?_
    refine Ss (rfl : true = true) 2 ?_
    refine Pk1 (rfl : true = true) ?_
    refine Vs 1 ?_
    refine Ss (rfl : true = true) 2 ?_
    refine Pk1 (rfl : true = true) ?_
    refine Vs 1 ?_
    refine Ss (rfl : true = true) 2 ?_
    refine Pk1 (rfl : true = true) ?_
    exact RWP.nil ⟨rfl, F8, hs130.dr1.dr1.dr1, (Mem.le.refl _), (fJ ⟨rfl, rfl, rfl, rfl, (congrArg Value.bool (or_f hb140 (or_t hb141 (rfl)))), trivial⟩)⟩
   ·refine Vgs hb141 2 ?_
    refine Pk0 hb141 ?_
    refine Vs 1 ?_
    refine RWP.split (r42.2.1 != 0) (fun hb142 => ?_) (fun hb142 => ?_)
    ·refine Ss hb142 2 ?_
     refine Pk1 hb142 ?_
     refine Vs 1 ?_
     refine Ss (rfl : true = true) 2 ?_
     refine Pk1 (rfl : true = true) ?_
     refine Vs 1 ?_
     refine Ss (rfl : true = true) 2 ?_
     refine Pk1 (rfl : true = true) ?_
     refine Vs 1 ?_
     refine Ss (rfl : true = true) 2 ?_
     refine Pk1 (rfl : true = true) ?_
     refine Vs 1 ?_
     refine Ss (rfl : true = true) 2 ?_
     refine Pk1 (rfl : true = true) ?_
     exact RWP.nil ⟨rfl, F8, hs130.dr1.dr1.dr1, (Mem.le.refl _), (fJ ⟨rfl, rfl, rfl, rfl, (congrArg Value.bool (or_f hb140 (or_f hb141 (or_t hb142 (rfl))))), trivial⟩)⟩
    ·refine Vgs hb142 2 ?_
     refine Pk0 hb142 ?_
     refine Vs 1 ?_
     refine RWP.split (r55.2.1 != 61) (fun hb143 => ?_) (fun hb143 => ?_)
     ·refine Ss hb143 2 ?_
      refine Pk1 hb143 ?_
      refine Vs 1 ?_
      refine Ss (rfl : true = true) 2 ?_
      refine Pk1 (rfl : true = true) ?_
      refine Vs 1 ?_
      refine Ss (rfl : true = true) 2 ?_
      refine Pk1 (rfl : true = true) ?_
      refine Vs 1 ?_
      refine Ss (rfl : true = true) 2 ?_
      refine Pk1 (rfl : true = true) ?_
      exact RWP.nil ⟨rfl, F8, hs130.dr1.dr1.dr1, (Mem.le.refl _), (fJ ⟨rfl, rfl, rfl, rfl, (congrArg Value.bool (or_f hb140 (or_f hb141 (or_f hb142 (or_t hb143 (rfl)))))), trivial⟩)⟩
     ·refine Vgs hb143 2 ?_
      refine Pk0 hb143 ?_
      refine Vs 1 ?_
      refine RWP.split (r97.2 != 0) (fun hb144 => ?_) (fun hb144 => ?_)
      ·refine Ss hb144 2 ?_
       refine Pk1 hb144 ?_
       refine Vs 1 ?_
       refine Ss (rfl : true = true) 2 ?_
       refine Pk1 (rfl : true = true) ?_
       refine Vs 1 ?_
       refine Ss (rfl : true = true) 2 ?_
       refine Pk1 (rfl : true = true) ?_
       exact RWP.nil ⟨rfl, F8, hs130.dr1.dr1.dr1, (Mem.le.refl _), (fJ ⟨rfl, rfl, rfl, rfl, (congrArg Value.bool (or_f hb140 (or_f hb141 (or_f hb142 (or_f hb143 (or_t hb144 (rfl))))))), trivial⟩)⟩
      ·refine Vgs hb144 2 ?_
       refine Pk0 hb144 ?_
       refine Vs 1 ?_
       refine RWP.split (r105.2.1 != 0) (fun hb145 => ?_) (fun hb145 => ?_)
       ·refine Ss hb145 2 ?_
        refine Pk1 hb145 ?_
        refine Vs 1 ?_
        refine Ss (rfl : true = true) 2 ?_
        refine Pk1 (rfl : true = true) ?_
        exact RWP.nil ⟨rfl, F8, hs130.dr1.dr1.dr1, (Mem.le.refl _), (fJ ⟨rfl, rfl, rfl, rfl, (congrArg Value.bool (or_f hb140 (or_f hb141 (or_f hb142 (or_f hb143 (or_f hb144 (or_t hb145 (rfl)))))))), trivial⟩)⟩
       ·refine Vgs hb145 2 ?_
        refine Pk0 hb145 ?_
        refine Vs 1 ?_
        refine RWP.split (r118.2 != 0) (fun hb146 => ?_) (fun hb146 => ?_)
        ·refine Ss hb146 2 ?_
         refine Pk1 hb146 ?_
         exact RWP.nil ⟨rfl, F8, hs130.dr1.dr1.dr1, (Mem.le.refl _), (fJ ⟨rfl, rfl, rfl, rfl, (congrArg Value.bool (or_f hb140 (or_f hb141 (or_f hb142 (or_f hb143 (or_f hb144 (or_f hb145 (or_t hb146 (rfl))))))))), trivial⟩)⟩
        ·refine Vgs hb146 2 ?_
         refine Pk0 hb146 ?_
         exact RWP.nil ⟨rfl, F8, hs130.dr1.dr1.dr1, (Mem.le.refl _), (fJ ⟨rfl, rfl, rfl, rfl, (congrArg Value.bool (or_f hb140 (or_f hb141 (or_f hb142 (or_f hb143 (or_f hb144 (or_f hb145 (or_f hb146 (rfl))))))))), trivial⟩)⟩
 ·rintro f w131 ⟨F9, hs132, le133, ⟨_, rfl⟩⟩
  refine thenQ_nrm ?_
  refine Cd h120 (fun hb147 h148 => ?_) (fun hb147 h149 => ?_)
  ·refine Sq (Rg [0] ?_)
   refine Vs 1 ?_
   refine Nt ?_
   refine Rt ?_
   refine thenQ_ret ?_
   obtain rfl := some_inj h148
   exact Re [(.bool false)] hs132 rfl
  ·refine Sc ?_
   refine thenQ_nrm ?_
   refine Sq (Rg [0, 1, 2, 3, 4, 5, 6, 7, 8, 9, 10, 11, 12, 13, 14, 15, 16, 17, 18, 19, 20, 21] ?_)
   refine RWP.cut (fun f w => ∃ (F10 : Mem), HS w0 F0 w F10 [] ∧ Mem.le F9 F10 ∧ FI f [] [(0, (.bool ((r21.1.Op == 4) && ((r34.1 == ([49, 32, 43, 32, 50, 32, 42, 32, 51, 32, 61, 32, 55, 32, 97, 110, 100, 32, 110, 111, 116, 32, 98, 97, 110, 100, 32, 60, 32, 50] : List UInt8)) && ((r97.1 == 2) && ((r118.1.Op == 2) && (r118.1.Value == 7)))))))]) ?_ ?_
   ·refine Vs 1 ?_
    refine Ld hs132.at1 ?_
    refine Vs 2 ?_
    refine RWP.split (r21.1.Op == 4) (fun hb155 => ?_) (fun hb155 => ?_)
    ·refine Vgs hb155 2 ?_
     refine Pk1 hb155 ?_
     refine Vs 1 ?_
     refine RWP.split (r34.1 == ([49, 32, 43, 32, 50, 32, 42, 32, 51, 32, 61, 32, 55, 32, 97, 110, 100, 32, 110, 111, 116, 32, 98, 97, 110, 100, 32, 60, 32, 50] : List UInt8)) (fun hb156 => ?_) (fun hb156 => ?_)
     ·refine Vgs hb156 2 ?_
      refine Pk1 hb156 ?_
      refine Vs 1 ?_
      refine RWP.split (r97.1 == 2) (fun hb157 => ?_) (fun hb157 => ?_)
      ·refine Vgs hb157 1 ?_
       refine Lg hb157 hs132.at0 ?_
       refine Vgs hb157 1 ?_
       refine Pk1 hb157 ?_
       refine Vs 1 ?_
       refine RWP.split (r118.1.Op == 2) (fun hb158 => ?_) (fun hb158 => ?_)
       ·refine Vgs hb158 1 ?_
        refine Lg hb158 hs132.at0 ?_
        refine Vgs hb158 1 ?_
        refine Pk1 hb158 ?_
        refine Vs 1 ?_
        exact RWP.nil ⟨rfl, F9, hs132.dr0.dr0, (Mem.le.refl _), (fJ ⟨(congrArg Value.bool (and_t hb155 (and_t hb156 (and_t hb157 (and_t hb158 (rfl)))))), trivial⟩)⟩
       ·refine Ss hb158 3 ?_
        refine Pk0 hb158 ?_
        refine Vs 1 ?_
        exact RWP.nil ⟨rfl, F9, hs132.dr0.dr0, (Mem.le.refl _), (fJ ⟨(congrArg Value.bool (and_t hb155 (and_t hb156 (and_t hb157 (and_f hb158 (rfl)))))), trivial⟩)⟩
      ·refine Ss hb157 3 ?_
       refine Pk0 hb157 ?_
       refine Vs 1 ?_
       refine Ss (rfl : false = false) 3 ?_
       refine Pk0 (rfl : false = false) ?_
       refine Vs 1 ?_
       exact RWP.nil ⟨rfl, F9, hs132.dr0.dr0, (Mem.le.refl _), (fJ ⟨(congrArg Value.bool (and_t hb155 (and_t hb156 (and_f hb157 (rfl))))), trivial⟩)⟩
     ·refine Ss hb156 2 ?_
      refine Pk0 hb156 ?_
      refine Vs 1 ?_
      refine Ss (rfl : false = false) 3 ?_
      refine Pk0 (rfl : false = false) ?_
      refine Vs 1 ?_
      refine Ss (rfl : false = false) 3 ?_
      refine Pk0 (rfl : false = false) ?_
      refine Vs 1 ?_
      exact RWP.nil ⟨rfl, F9, hs132.dr0.dr0, (Mem.le.refl _), (fJ ⟨(congrArg Value.bool (and_t hb155 (and_f hb156 (rfl)))), trivial⟩)⟩
    ·refine Ss hb155 2 ?_
     refine Pk0 hb155 ?_
     refine Vs 1 ?_
     refine Ss (rfl : false = false) 2 ?_
     refine Pk0 (rfl : false = false) ?_
     refine Vs 1 ?_
     refine Ss (rfl : false = false) 3 ?_
     refine Pk0 (rfl : false = false) ?_
     refine Vs 1 ?_
     refine Ss (rfl : false = false) 3 ?_
     refine Pk0 (rfl : false = false) ?_
     refine Vs 1 ?_
     exact RWP.nil ⟨rfl, F9, hs132.dr0.dr0, (Mem.le.refl _), (fJ ⟨(congrArg Value.bool (and_f hb155 (rfl))), trivial⟩)⟩
   ·rintro f w150 ⟨F10, hs151, le152, ⟨_, rfl⟩⟩
    refine thenQ_nrm ?_
    refine Rt ?_
    obtain rfl := some_inj h149
    exact Re [(.bool ((r21.1.Op == 4) && ((r34.1 == ([49, 32, 43, 32, 50, 32, 42, 32, 51, 32, 61, 32, 55, 32, 97, 110, 100, 32, 110, 111, 116, 32, 98, 97, 110, 100, 32, 60, 32, 50] : List UInt8)) && ((r97.1 == 2) && ((r118.1.Op == 2) && (r118.1.Value == 7))))))] hs151 rfl
end Go.Proofs.YtaihlcdkcampbaaGreatDoor
namespace Go.Proofs.YtaihlcdkcampbaaGreatDoor
open Go.Proofs
set_option maxRecDepth 100000 in
theorem awake_yes : law06_awake0 9223372036854775808 = some true := by kernel_rfl
def law06_awake (_N : Nat) : Option Bool := some true
theorem co_law06_awake : CallOk Tryz.prog 21 := co_law06_awake0
theorem c_law06_awake (N : Nat) (w0 : World) (F0 : Mem) (hF : ∀ b o, F0 b = some o → w0.heap[b]? = some o) (hG : Glob F0) (r : Bool) (h : law06_awake N = some r) :
  Calls Tryz.prog 21 ([] : List Value).toArray w0 (FRet w0 F0 fun F' v => v = (.bool r)) := by
 cases h
 exact c_law06_awake0 9223372036854775808 w0 F0 hF hG true awake_yes
end Go.Proofs.YtaihlcdkcampbaaGreatDoor
namespace Go.Proofs.YtaihlcdkcampbaaGreatDoor
open Go.Proofs
end Go.Proofs.YtaihlcdkcampbaaGreatDoor
namespace Go.Proofs.YtaihlcdkcampbaaGreatDoor
open Go.Proofs
def law06_RulesGaps (N : Nat) (x0 : (List Clause)) (x1 : (List Span)) (x2 : pileuplaw06_Which) : Option Bool :=
 ((law06_awake N ).bind fun r24 => (((law06_weight N x0).bind fun r44 => (bif (decide (r44 > 200)) then some true else ((law06_few N x1 400).bind fun r55 => some (!r55)))).bind fun j35 => (bif j35 then some r24 else ((rules_Gap N x0 x1).bind fun r66 => ((ref06_Gap N x0 x1).bind fun r74 => ((rules_Clash N x0 x2.I x2.K x1).bind fun r82 => ((ref06_Clash N x0 x2.I x2.K x1).bind fun r90 => ((rules_Shadowed N x0 x1).bind fun r98 => ((ref06_Shadowed N x0 x1).bind fun r106 => ((bif r24 then ((law06_same N r66.1 r74.1).bind fun r125 => (bif r125 then (bif (r66.2 == r74.2) then ((law06_same N r82.1 r90.1).bind fun r139 => (bif r139 then (bif (r82.2 == r90.2) then ((law06_same N r98.1 r106.1).bind fun r153 => (bif r153 then some (r98.2 == r106.2) else some false)) else some false) else some false)) else some false) else some false)) else some false).bind fun j117 => some j117))))))))))
theorem c_law06_RulesGaps (N : Nat) (w0 : World) (F0 : Mem) (hF : ∀ b o, F0 b = some o → w0.heap[b]? = some o) (hG : Glob F0) (x0 : (List Clause)) (a0_0 : Option Addr) (n0_0 : Nat) (hb0_0 : LC x0.length n0_0) (hs0_0 : SlA tClause F0 a0_0 x0) (x1 : (List Span)) (a1_0 : Option Addr) (n1_0 : Nat) (hb1_0 : LC x1.length n1_0) (hs1_0 : SlA tSpan F0 a1_0 x1) (x2 : pileuplaw06_Which) (r : Bool) (h : law06_RulesGaps N x0 x1 x2 = some r) :
  Calls Tryz.prog 17 ([(.slice a0_0 x0.length n0_0), (.slice a1_0 x1.length n1_0), (.agg (kpileuplaw06_Which x2))] : List Value).toArray w0 (FRet w0 F0 fun F' v => v = (.bool r)) := by
 have hs0 := HS.start hF
 refine Go 105 Tryz.func17 ?_
 refine Sq (Rg [0, 1] ?_)
 refine Bx' 83 (kpileuplaw06_Which x2) hs0 (fun b21 w22 hs23 => ?_)
 refine Vs 1 ?_
 refine Nss (Rg [0, 1] ?_)
 obtain ⟨r24, hr25, h26⟩ := bind_some h
 refine Cl' co_law06_awake hs23 (c_law06_awake N w22 F0 hs23.pers hG  _ hr25) ?_
 rintro _ F1 w28 hs29 le30 rfl
 refine Vs 1 ?_
 refine Nss ?_
 refine Sq (Rg [0, 1, 2, 3, 4, 5, 6, 7] ?_)
 obtain ⟨j35, hj42, h43⟩ := bind_some h26
 refine RWP.cut (fun f w => ∃ (F2 : Mem), HS w0 F0 w F2 [(sb b21 (kpileuplaw06_Which x2) 83)] ∧ Mem.le F1 F2 ∧ FI f [] [(0, (.slice a0_0 x0.length n0_0)), (1, (.slice a1_0 x1.length n1_0)), (5, (pt b21 0)), (7, (.bool r24)), (28, (.bool j35))]) ?_ ?_
 ·refine Vs 1 ?_
  obtain ⟨r44, hr45, h46⟩ := bind_some hj42
  refine Cl' co_law06_weight hs29 (c_law06_weight N w28 F1 hs29.pers (x0) a0_0 n0_0 hb0_0 (SlA.mono hs0_0 le30) _ hr45) ?_
  rintro _ F3 w48 hs49 le50 rfl
  refine Vs 2 ?_
  refine Sp h46 (fun hb52 h53 => ?_) (fun hb52 h54 => ?_)
  ·refine Ss hb52 3 ?_
   refine Pk1 hb52 ?_
   obtain rfl := some_inj h53
   exact RWP.nil ⟨rfl, F3, hs49, le50, fI⟩
  ·refine Vgs hb52 1 ?_
   obtain ⟨r55, hr56, h57⟩ := bind_some h54
   refine Cg hb52 co_law06_few hs49 (c_law06_few N w48 F3 hs49.pers (x1) a1_0 n1_0 hb1_0 (SlA.mono hs1_0 (le30.trans le50)) (400) _ hr56) ?_
   rintro _ F4 w59 hs60 le61 rfl
   refine Vgs hb52 1 ?_
   refine Pk0 hb52 ?_
   obtain rfl := some_inj h57
   exact RWP.nil ⟨rfl, F4, hs60, (le50.trans le61), fI⟩
 ·rintro f w32 ⟨F2, hs33, le34, ⟨_, rfl⟩⟩
  refine thenQ_nrm ?_
  refine Cd h43 (fun hb63 h64 => ?_) (fun hb63 h65 => ?_)
  ·refine Sq (Rg [0, 1] ?_)
   refine Vs 2 ?_
   refine Nt ?_
   refine Rt ?_
   refine thenQ_ret ?_
   obtain rfl := some_inj h64
   exact Re [(.bool r24)] hs33 rfl
  ·refine Sc ?_
   refine thenQ_nrm ?_
   refine Sq (Rg [0, 1, 2, 3, 4, 5, 6, 7] ?_)
   refine Vs 2 ?_
   obtain ⟨r66, hr67, h68⟩ := bind_some h65
   refine Cl' co_rules_Gap hs33 (c_rules_Gap N w32 F2 hs33.pers (x0) a0_0 n0_0 hb0_0 (SlA.mono hs0_0 (le30.trans le34)) (x1) a1_0 n1_0 hb1_0 (SlA.mono hs1_0 (le30.trans le34)) _ hr67) ?_
   rintro _ F5 w70 hs71 le72 ⟨ar66_0_0, nr66_0_0, rfl, hbr66_0_0, hsr66_0_0⟩
   refine Vs 5 ?_
   refine Nss (Rg [0, 1, 2, 3, 4, 5, 6, 7] ?_)
   refine Vs 2 ?_
   obtain ⟨r74, hr75, h76⟩ := bind_some h68
   refine Cl' co_ref06_Gap hs71 (c_ref06_Gap N w70 F5 hs71.pers (x0) a0_0 n0_0 hb0_0 (SlA.mono hs0_0 ((le30.trans le34).trans le72)) (x1) a1_0 n1_0 hb1_0 (SlA.mono hs1_0 ((le30.trans le34).trans le72)) _ hr75) ?_
   rintro _ F6 w78 hs79 le80 ⟨ar74_0_0, nr74_0_0, rfl, hbr74_0_0, hsr74_0_0⟩
   refine Vs 5 ?_
   refine Nss (Rg [0, 1, 2, 3, 4, 5, 6, 7, 8, 9, 10, 11] ?_)
   refine Vs 2 ?_
   refine Ld hs79.at0 ?_
   refine Vs 1 ?_
   refine Ld hs79.at0 ?_
   refine Vs 1 ?_
   obtain ⟨r82, hr83, h84⟩ := bind_some h76
   refine Cl' co_rules_Clash hs79 (c_rules_Clash N w78 F6 hs79.pers (x0) a0_0 n0_0 hb0_0 (SlA.mono hs0_0 (((le30.trans le34).trans le72).trans le80)) (x2.I) (x2.K) (x1) a1_0 n1_0 hb1_0 (SlA.mono hs1_0 (((le30.trans le34).trans le72).trans le80)) _ hr83) ?_
   rintro _ F7 w86 hs87 le88 ⟨ar82_0_0, nr82_0_0, rfl, hbr82_0_0, hsr82_0_0⟩
   refine Vs 5 ?_
   refine Nss (Rg [0, 1, 2, 3, 4, 5, 6, 7, 8, 9, 10, 11] ?_)
   refine Vs 2 ?_
   refine Ld hs87.at0 ?_
   refine Vs 1 ?_
   refine Ld hs87.at0 ?_
   refine Vs 1 ?_
   obtain ⟨r90, hr91, h92⟩ := bind_some h84
   refine Cl' co_ref06_Clash hs87 (c_ref06_Clash N w86 F7 hs87.pers (x0) a0_0 n0_0 hb0_0 (SlA.mono hs0_0 ((((le30.trans le34).trans le72).trans le80).trans le88)) (x2.I) (x2.K) (x1) a1_0 n1_0 hb1_0 (SlA.mono hs1_0 ((((le30.trans le34).trans le72).trans le80).trans le88)) _ hr91) ?_
   rintro _ F8 w94 hs95 le96 ⟨ar90_0_0, nr90_0_0, rfl, hbr90_0_0, hsr90_0_0⟩
   refine Vs 5 ?_
   refine Nss (Rg [0, 1, 2, 3, 4, 5, 6, 7] ?_)
   refine Vs 2 ?_
   obtain ⟨r98, hr99, h100⟩ := bind_some h92
   refine Cl' co_rules_Shadowed hs95 (c_rules_Shadowed N w94 F8 hs95.pers (x0) a0_0 n0_0 hb0_0 (SlA.mono hs0_0 (((((le30.trans le34).trans le72).trans le80).trans le88).trans le96)) (x1) a1_0 n1_0 hb1_0 (SlA.mono hs1_0 (((((le30.trans le34).trans le72).trans le80).trans le88).trans le96)) _ hr99) ?_
   rintro _ F9 w102 hs103 le104 ⟨ar98_0_0, nr98_0_0, rfl, hbr98_0_0, hsr98_0_0⟩
   refine Vs 5 ?_
   refine Nss (Rg [0, 1, 2, 3, 4, 5, 6, 7] ?_)
   refine Vs 2 ?_
   obtain ⟨r106, hr107, h108⟩ := bind_some h100
   refine Cl' co_ref06_Shadowed hs103 (c_ref06_Shadowed N w102 F9 hs103.pers (x0) a0_0 n0_0 hb0_0 (SlA.mono hs0_0 ((((((le30.trans le34).trans le72).trans le80).trans le88).trans le96).trans le104)) (x1) a1_0 n1_0 hb1_0 (SlA.mono hs1_0 ((((((le30.trans le34).trans le72).trans le80).trans le88).trans le96).trans le104)) _ hr107) ?_
   rintro _ F10 w110 hs111 le112 ⟨ar106_0_0, nr106_0_0, rfl, hbr106_0_0, hsr106_0_0⟩
   refine Vs 5 ?_
   refine Nss (Rg [0, 1, 2, 3, 4, 5, 6, 7, 8, 9, 10, 11, 12, 13, 14, 15, 16, 17, 18, 19, 20, 21, 22, 23, 24, 25, 26, 27, 28, 29, 30, 31] ?_)
   obtain ⟨j117, hj120, h121⟩ := bind_some h108
   refine RWP.cut (fun f w => ∃ (F11 : Mem), HS w0 F0 w F11 [] ∧ Mem.le F10 F11 ∧ FI f [] [(6, (.bool j117))]) ?_ ?_
   ·refine Vs 2 ?_
    refine Sp hj120 (fun hb122 h123 => ?_) (fun hb122 h124 => ?_)
    ·refine Vgs hb122 2 ?_
     obtain ⟨r125, hr126, h127⟩ := bind_some h123
     refine Cg hb122 co_law06_same hs111 (c_law06_same N w110 F10 hs111.pers (r66.1) ar66_0_0 nr66_0_0 hbr66_0_0 (SlA.mono hsr66_0_0 ((((le80.trans le88).trans le96).trans le104).trans le112)) (r74.1) ar74_0_0 nr74_0_0 hbr74_0_0 (SlA.mono hsr74_0_0 (((le88.trans le96).trans le104).trans le112)) _ hr126) ?_
     rintro _ F12 w129 hs130 le131 rfl
     refine Pk1 hb122 ?_
     refine Vs 1 ?_
     refine Sp h127 (fun hb133 h134 => ?_) (fun hb133 h135 => ?_)
     ·refine Vgs hb133 3 ?_
      refine Pk1 hb133 ?_
      refine Vs 1 ?_
      refine Sp h134 (fun hb136 h137 => ?_) (fun hb136 h138 => ?_)
      ·refine Vgs hb136 2 ?_
       obtain ⟨r139, hr140, h141⟩ := bind_some h137
       refine Cg hb136 co_law06_same hs130 (c_law06_same N w129 F12 hs130.pers (r82.1) ar82_0_0 nr82_0_0 hbr82_0_0 (SlA.mono hsr82_0_0 (((le96.trans le104).trans le112).trans le131)) (r90.1) ar90_0_0 nr90_0_0 hbr90_0_0 (SlA.mono hsr90_0_0 ((le104.trans le112).trans le131)) _ hr140) ?_
       rintro _ F13 w143 hs144 le145 rfl
       refine Pk1 hb136 ?_
       refine Vs 1 ?_
       refine Sp h141 (fun hb147 h148 => ?_) (fun hb147 h149 => ?_)
       ·refine Vgs hb147 3 ?_
        refine Pk1 hb147 ?_
        refine Vs 1 ?_
        refine Sp h148 (fun hb150 h151 => ?_) (fun hb150 h152 => ?_)
        ·refine Vgs hb150 2 ?_
         obtain ⟨r153, hr154, h155⟩ := bind_some h151
         refine Cg hb150 co_law06_same hs144 (c_law06_same N w143 F13 hs144.pers (r98.1) ar98_0_0 nr98_0_0 hbr98_0_0 (SlA.mono hsr98_0_0 ((le112.trans le131).trans le145)) (r106.1) ar106_0_0 nr106_0_0 hbr106_0_0 (SlA.mono hsr106_0_0 (le131.trans le145)) _ hr154) ?_
         rintro _ F14 w157 hs158 le159 rfl
         refine Pk1 hb150 ?_
         refine Vs 1 ?_
         refine Sp h155 (fun hb161 h162 => ?_) (fun hb161 h163 => ?_)
         ·refine Vgs hb161 3 ?_
          refine Pk1 hb161 ?_
          refine Vs 1 ?_
          obtain rfl := some_inj h162
          exact RWP.nil ⟨rfl, F14, hs158.dr0, ((le131.trans le145).trans le159), fI⟩
         ·refine Ss hb161 3 ?_
          refine Pk0 hb161 ?_
          refine Vs 1 ?_
          obtain rfl := some_inj h163
          exact RWP.nil ⟨rfl, F14, hs158.dr0, ((le131.trans le145).trans le159), fI⟩
        ·refine Ss hb150 3 ?_
         refine Pk0 hb150 ?_
         refine Vs 1 ?_
         refine Ss (rfl : false = false) 3 ?_
         refine Pk0 (rfl : false = false) ?_
         refine Vs 1 ?_
         obtain rfl := some_inj h152
         exact RWP.nil ⟨rfl, F13, hs144.dr0, (le131.trans le145), fI⟩
       ·refine Ss hb147 3 ?_
        refine Pk0 hb147 ?_
        refine Vs 1 ?_
        refine Ss (rfl : false = false) 3 ?_
        refine Pk0 (rfl : false = false) ?_
        refine Vs 1 ?_
        refine Ss (rfl : false = false) 3 ?_
        refine Pk0 (rfl : false = false) ?_
        refine Vs 1 ?_
        obtain rfl := some_inj h149
        exact RWP.nil ⟨rfl, F13, hs144.dr0, (le131.trans le145), fI⟩
      ·refine Ss hb136 3 ?_
       refine Pk0 hb136 ?_
       refine Vs 1 ?_
       refine Ss (rfl : false = false) 3 ?_
       refine Pk0 (rfl : false = false) ?_
       refine Vs 1 ?_
       refine Ss (rfl : false = false) 3 ?_
       refine Pk0 (rfl : false = false) ?_
       refine Vs 1 ?_
       refine Ss (rfl : false = false) 3 ?_
       refine Pk0 (rfl : false = false) ?_
       refine Vs 1 ?_
       obtain rfl := some_inj h138
       exact RWP.nil ⟨rfl, F12, hs130.dr0, le131, fI⟩
     ·refine Ss hb133 3 ?_
      refine Pk0 hb133 ?_
      refine Vs 1 ?_
      refine Ss (rfl : false = false) 3 ?_
      refine Pk0 (rfl : false = false) ?_
      refine Vs 1 ?_
      refine Ss (rfl : false = false) 3 ?_
      refine Pk0 (rfl : false = false) ?_
      refine Vs 1 ?_
      refine Ss (rfl : false = false) 3 ?_
      refine Pk0 (rfl : false = false) ?_
      refine Vs 1 ?_
      refine Ss (rfl : false = false) 3 ?_
      refine Pk0 (rfl : false = false) ?_
      refine Vs 1 ?_
      obtain rfl := some_inj h135
      exact RWP.nil ⟨rfl, F12, hs130.dr0, le131, fI⟩
    ·refine Ss hb122 3 ?_
     refine Pk0 hb122 ?_
     refine Vs 1 ?_
     refine Ss (rfl : false = false) 3 ?_
     refine Pk0 (rfl : false = false) ?_
     refine Vs 1 ?_
     refine Ss (rfl : false = false) 3 ?_
     refine Pk0 (rfl : false = false) ?_
     refine Vs 1 ?_
     refine Ss (rfl : false = false) 3 ?_
     refine Pk0 (rfl : false = false) ?_
     refine Vs 1 ?_
     refine Ss (rfl : false = false) 3 ?_
     refine Pk0 (rfl : false = false) ?_
     refine Vs 1 ?_
     refine Ss (rfl : false = false) 3 ?_
     refine Pk0 (rfl : false = false) ?_
     refine Vs 1 ?_
     obtain rfl := some_inj h124
     exact RWP.nil ⟨rfl, F10, hs111.dr0, (Mem.le.refl _), fI⟩
   ·rintro f w114 ⟨F11, hs115, le116, ⟨_, rfl⟩⟩
    refine thenQ_nrm ?_
    refine Rt ?_
    obtain rfl := some_inj h121
    exact Re [(.bool j117)] hs115 rfl
end Go.Proofs.YtaihlcdkcampbaaGreatDoor
namespace Go.Proofs.YtaihlcdkcampbaaGreatDoor
section
variable {N : Nat} {σ : Type}
theorem foldY_all {y : σ → List Int → Option (Bool × σ)} {g : σ → List Int → σ} : ∀ {L : List (List Int)} {s : σ}, (∀ s x, x ∈ L → y s x = some (true, g s x)) → foldY y L s = some (L.foldl g s)
 | [], _, _ => rfl
 | x :: L, s, h => by
  rw [foldY, h s x (List.mem_cons_self ..), Option.bind_some, cond_true, List.foldl_cons]
  exact foldY_all fun s z hz => h s z (List.mem_cons_of_mem _ hz)
theorem mget_mput {k j : Int} : ∀ {m : List (Int × Bool)}, mget (mput m k true) j = if j = k then some true else mget m j
 | [] => by simp [mput, mget]
 | (a, b) :: m => by
  unfold mput
  by_cases h : k = a
  ·subst h
   simp only [if_true, mget]
   by_cases h2 : j = k <;> simp [h2]
  ·simp only [h, if_false, mget]
   rw [mget_mput]
   by_cases h2 : j = a
   ·subst h2; simp [Ne.symm h]
   ·simp [h2]
def hit (l : List Clause) (d : List Span) (k : Int) : Bool := (allL d).any fun f => fi (isT f) l == k
theorem seen_fold {g : List Int → Int} {k : Int} : ∀ (L : List (List Int)) (m : List (Int × Bool)), mgetD (L.foldl (fun m f => mput m (g f) true) m) k false = (L.any (fun f => g f == k) || mgetD m k false)
 | [], m => by simp
 | x :: L, m => by
  rw [List.foldl_cons, seen_fold L, List.any_cons]
  unfold mgetD
  rw [mget_mput]
  by_cases h : k = g x
  ·simp [h]
  ·have : (g x == k) = false := by simpa using Ne.symm h
   rw [this, if_neg h, Bool.false_or]
noncomputable def shadL (l : List Clause) (d : List Span) : List Int := ((List.range l.length).filter fun i : Nat => !(hit l d (i : Int))).map fun i : Nat => (i : Int)
noncomputable def shadS (l : List Clause) (d : List Span) : List Int × Int := if sndL l = false then ([], 61) else if dom d = false then ([], 64) else (shadL l d, 0)
theorem shad_iter {l : List Clause} {d : List Span} {body : List Int × Int → Option (Flow (List Int × Int) (List Int × Int))} (hN : 5000 < N) (hl : l.length ≤ 64)
  (hb : ∀ (i : Nat) (s : List Int), i < l.length → s.length ≤ 64 → body (s, (i : Int)) = some (.next (if hit l d (i : Int) then s else s ++ [(i : Int)], ((i + 1 : Nat) : Int)))) (he : ∀ s, body (s, (l.length : Int)) = some (.done (s, (l.length : Int)))) :
  iter body N ([], 0) = some (.done (shadL l d, (l.length : Int))) := by
 obtain ⟨o, ho, rfl⟩ := iter_ex (body := body) l.length (fun i t => t = (((List.range i).filter fun i : Nat => !(hit l d (i : Int))).map fun i : Nat => (i : Int), (i : Int))) (fun o => o = .done (shadL l d, (l.length : Int))) (by
  rintro i t hi rfl
  by_cases h : i < l.length
  ·have hle : (((List.range i).filter fun i : Nat => !(hit l d (i : Int))).map fun i : Nat => (i : Int)).length ≤ 64 := by
    rw [List.length_map]
    have := List.length_filter_le (fun i : Nat => !(hit l d (i : Int))) (List.range i)
    rw [List.length_range] at this
    omega
   refine .inl ⟨_, hb i _ h hle, ?_, h⟩
   rw [List.range_succ, List.filter_append]
   cases hh : hit l d (i : Int) <;> simp [hh]
  ·have : i = l.length := by omega
   subst this
   exact .inr ⟨_, he _, (fun _ h => by cases h), rfl⟩) l.length N 0 ([], 0) (by omega) (by simp) (by omega)
 exact ho
theorem s_Shadowed {l : List Clause} {d : List Span} (hN : 5000 < N) (h : FitL N l) : rules_Shadowed N l d = some (shadS l d) := by
 unfold rules_Shadowed shadS
 rw [s_asked (by omega) h, Option.bind_some]
 cases hs : sndL l
 ·rfl
 ·cases hd : dom d
  ·rfl
  ·rw [if_neg tf, if_neg tf, if_neg tf, if_neg tf, show ((0 : Int) != 0) = false from rfl, cond_false]
   rw [s_all1 _ _ hd hN, foldY_all (g := fun m f => mput m (fi (isT f) l) true) (fun s x hx => by
    unfold rules_Shadowed_L0
    rw [s_first (dom_fac hd hx) h (fun c hc => sndL_c hs hc)]; rfl), Option.bind_some]
   rw [shad_iter (l := l) (d := d) hN (sndL_n hs) (fun i s hi hle => ?_) (fun s => ?_), Option.bind_some]
   ·rfl
   ·unfold rules_Shadowed_L1
    simp only
    have hl64 := sndL_n hs
    rw [lt_t hi, cond_true, seen_fold, W64_succ (by omega)]
    have e0 : mgetD ([] : List (Int × Bool)) (i : Int) false = false := rfl
    rw [e0, Bool.or_false]
    rw [show ((allL d).any fun f => fi (isT f) l == (i : Int)) = hit l d (i : Int) from rfl]
    cases hit l d (i : Int) with
    | true => rfl
    | false =>
     rw [Bool.not_false, cond_true, apnd_ok (by simp; omega)]; rfl
   ·unfold rules_Shadowed_L1
    simp only
    rw [lt_f, cond_false]
theorem fi_rng (l : List Clause) (f : List Int) : -1 ≤ fi (isT f) l ∧ fi (isT f) l < (l.length : Int) := by
 by_cases h : 0 ≤ fi (isT f) l
 ·obtain ⟨i, hi, h1, _⟩ := fi_nn h; omega
 ·have : fi (isT f) l = -1 := by
   have h2 := fi_neg.1 (by omega : fi (isT f) l < 0)
   unfold fi; rw [h2]; rfl
  omega
theorem marks_iter {l : List Clause} {L : List (List Int)} {body : Int × List Bool → Option (Flow (List Int × Int) (Int × List Bool))} (hN : 5000 < N) (hL : L.length ≤ 4096) (hl : l.length ≤ 64)
  (hb : ∀ (i : Nat) (s : List Bool) (h : i < L.length), s.length = l.length + 1 → body ((i : Int), s) = some (.next (((i + 1 : Nat) : Int), s.set (fi (isT L[i]) l + 1).toNat true))) (he : ∀ s, body ((L.length : Int), s) = some (.done ((L.length : Int), s))) :
  ∃ s, iter body N (0, List.replicate (l.length + 1) false) = some (.done ((L.length : Int), s)) ∧ s.length = l.length + 1 ∧ ∀ (k : Nat) (hk : k < s.length), s[k] = L.any fun f => fi (isT f) l + 1 == (k : Int) := by
 obtain ⟨o, ho, s, rfl, h1, h2⟩ := iter_ex (body := body) L.length (fun i t => ∃ s, t = ((i : Int), s) ∧ s.length = l.length + 1 ∧ ∀ (k : Nat) (hk : k < s.length), s[k] = (L.take i).any fun f => fi (isT f) l + 1 == (k : Int)) (fun o => ∃ s, o = .done ((L.length : Int), s) ∧ s.length = l.length + 1 ∧ ∀ (k : Nat) (hk : k < s.length), s[k] = L.any fun f => fi (isT f) l + 1 == (k : Int)) (by
  rintro i t hi ⟨s, rfl, h1, h2⟩
  by_cases h : i < L.length
  ·refine .inl ⟨_, hb i s h h1, ⟨_, rfl, by simpa using h1, fun k hk => ?_⟩, h⟩
   rw [List.getElem_set, List.take_succ_eq_append_getElem h, List.any_append]
   have hr := fi_rng l L[i]
   split
   ·rename_i e
    subst e
    have : (fi (isT L[i]) l + 1 == (((fi (isT L[i]) l + 1).toNat : Nat) : Int)) = true := by
     rw [beq_iff_eq]; omega
    rw [List.any_cons, this, Bool.true_or, Bool.or_true]
   ·rename_i e
    rw [h2 k (by simpa using hk)]
    have : (fi (isT L[i]) l + 1 == (k : Int)) = false := by
     rw [beq_eq_false_iff_ne]; omega
    simp [this]
  ·have : i = L.length := by omega
   subst this
   exact .inr ⟨_, he _, (fun _ h => by cases h), s, rfl, h1, by simpa using h2⟩) L.length N 0 (0, List.replicate (l.length + 1) false) (by omega) ⟨_, rfl, by simp, by simp⟩ (by omega)
 exact ⟨s, ho, h1, h2⟩
theorem s_rShadowed {l : List Clause} {d : List Span} (hN : 2000000 < N) (h : FitL N l) : ref06_Shadowed N l d = some (shadS l d) := by
 unfold ref06_Shadowed shadS
 rw [s_listed h, Option.bind_some, s_Domains (by omega)]
 cases hs : sndL l
 ·rfl
 ·cases hd : dom d
  ·rfl
  ·have hl := sndL_n hs
   have e : mk0 false (W64 ((l.length : Int) + 1)) = some (List.replicate (l.length + 1) false) := by
    rw [W64_succ (by omega)]
    have h2 : (0 : Int) ≤ ((l.length + 1 : Nat) : Int) ∧ ((l.length + 1 : Nat) : Int) < 4294967296 := by omega
    unfold mk0
    rw [if_pos h2, Int.toNat_natCast]
   rw [Option.bind_some, if_neg tf, if_neg tf, show (!true) = false from rfl, cond_false, cond_false, e, Option.bind_some, s_All hd hN, Option.bind_some]
   have hv : (allL d).length ≤ 4096 := by rw [allL_length]; exact dom_vol hd
   obtain ⟨s, h1, h2, h3⟩ := marks_iter (N := N) (l := l) (L := allL d) (body := ref06_Shadowed_L0 N l d true true (List.replicate (l.length + 1) false) (allL d)) (by omega) hv hl (fun i s hi hsl => by
    have hr := fi_rng l (allL d)[i]
    unfold ref06_Shadowed_L0
    simp only
    rw [lt_t hi, cond_true, idx_nat hi, Option.bind_some, s_rfirst (dom_fac hd (List.getElem_mem hi)) h (fun c hc => sndL_c hs hc), Option.bind_some, W64_small (by omega) (by omega), idx_int (by omega) (by omega), Option.bind_some, W64_succ (by omega)]) (fun s => by
    unfold ref06_Shadowed_L0
    simp only
    rw [lt_f, cond_false])
   rw [h1, Option.bind_some]
   simp only [Flow.k]
   rw [shad_iter (l := l) (d := d) (by omega) hl (fun i t hi hle => ?_) (fun s => ?_), Option.bind_some]
   ·unfold ref06_Shadowed_L1
    simp only
    rw [lt_t hi, cond_true, W64_succ (by omega), idx_nat (by omega : i + 1 < s.length), Option.bind_some, h3]
    have e2 : ((allL d).any fun f => fi (isT f) l + 1 == ((i + 1 : Nat) : Int)) = hit l d (i : Int) := by
     unfold hit
     congr 1
     funext f
     rw [Bool.eq_iff_iff, beq_iff_eq, beq_iff_eq]; omega
    rw [e2]
    cases hit l d (i : Int) with
    | true => rfl
    | false =>
     rw [Bool.not_false, cond_true, apnd_ok (by simp; omega)]; rfl
   ·unfold ref06_Shadowed_L1
    simp only
    rw [lt_f, cond_false]
noncomputable def mx (e : Expr) (d : List Span) : Int := (allL d).foldl (fun a f => max a (val f e)) (-1000000)
theorem found_len {d : List Span} {q : List Int → Bool} (hd : dom d = true) : (found ((allL d).find? q)).1.length ≤ 14 := by
 cases h : (allL d).find? q with
 | none => simp [found]
 | some f =>
  have := box_len (mem_allL.1 (List.mem_of_find?_eq_some h))
  have := dom_len hd
  simp [found]; omega
theorem gapS_len {l : List Clause} {d : List Span} : (gapS l d).1.length ≤ 14 := by
 unfold gapS
 split
 ·simp
 ·split
  ·simp
  ·rename_i h; exact found_len (by simpa using h)
theorem clashS_len {l : List Clause} {d : List Span} {i k : Int} : (clashS l i k d).1.length ≤ 14 := by
 unfold clashS
 split
 ·simp
 ·split
  ·simp
  ·split
   ·simp
   ·rename_i h _; exact found_len (by simpa using h)
theorem shadS_len {l : List Clause} {d : List Span} : (shadS l d).1.length ≤ 64 := by
 unfold shadS
 split
 ·simp
 ·rename_i hs
  split
  ·simp
  ·have h1 := sndL_n (l := l) (by simpa using hs)
   have h2 := List.length_filter_le (fun i : Nat => !(hit l d (i : Int))) (List.range l.length)
   unfold shadL
   simp only [List.length_map]
   rw [List.length_range] at h2
   omega
theorem gaps_holds (l : List Clause) (d : List Span) (x : pileuplaw06_Which) (hN : 2000000 < N) (hl : FitL N l) : law06_RulesGaps N l d x = some true := by
 obtain ⟨w, hw, _⟩ := s_few (N := N) (by omega) d 400
 have h1 := gapS_len (l := l) (d := d)
 have h2 := clashS_len (l := l) (d := d) (i := x.I) (k := x.K)
 have h3 := shadS_len (l := l) (d := d)
 unfold law06_RulesGaps law06_awake
 rw [s_weight hl, hw, s_Gap (by omega) hl, s_rGap hN hl, s_Clash (by omega) hl, s_rClash hN hl, s_Shadowed (by omega) hl, s_rShadowed hN hl]
 simp only [Option.bind_some]
 rw [m_same_self (l := (gapS l d).1) (by omega) (by omega), m_same_self (l := (clashS l x.I x.K d).1) (by omega) (by omega), m_same_self (l := (shadS l d).1) (by omega) (by omega)]
 generalize decide (wt l > 200) = b1
 cases b1 <;> cases w <;> simp
end
end Go.Proofs.YtaihlcdkcampbaaGreatDoor
namespace Go.Proofs.YtaihlcdkcampbaaGreatDoor
abbrev qL {α : Type} (q : α → Prop) (l : List α) : Prop := l.length < 9223372036854775808 ∧ ∀ c, c ∈ l → q c
theorem gaps_row (l : List Clause) (d : List Span) (x : pileuplaw06_Which) (h0 : qL qClause l) (_ : qL qSpan d) (_ : qpileuplaw06_Which x) : ∃ N, law06_RulesGaps N l d x = some true := by
 obtain ⟨m, hm⟩ := fitL_ex h0
 exact ⟨m + 2000001, gaps_holds l d x (by omega) (hm _ (by omega))⟩
end Go.Proofs.YtaihlcdkcampbaaGreatDoor
