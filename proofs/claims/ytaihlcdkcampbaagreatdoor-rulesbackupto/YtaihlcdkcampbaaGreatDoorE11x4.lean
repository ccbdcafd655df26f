/- Lemmas of the claim RulesBackUpto, printed by a program of the claimant and by hand. No statement of the seat is proved here. -/
import Derived.Test.YtaihlcdkcampbaaGreatDoorE11x3
set_option linter.unusedVariables false
set_option linter.unusedSimpArgs false
set_option linter.unusedSectionVars false
set_option maxHeartbeats 4000000
set_option maxRecDepth 100000
namespace Go.Proofs.YtaihlcdkcampbaaGreatDoor
def FC (N : Nat) (sR243 : Ab -> Option (Ag ⊕ (Ab × Expr))) (x0 : Ab) : Option (Ag ⊕ (Ab × Expr)) :=
 ((AR N x0 (fun y => sR243 y) (Gi ([] : List (W4 × Int)) ([42] : W4) 10)).bind fun r37 => sk r37 (fun b49 => some (.inl b49)) (fun r40 => some (.inr (r40.1, r40.2))))
theorem Iw (N : Nat) (sR243 : Ab -> Option (Ag ⊕ (Ab × Expr))) (hsR243 : OR sR243) {wb w0 : World} {Fb F0 : Mem} {Lf : Own} (hG : DD F0) (bp0 : Nat) (x0 : Ab) (a0_0 : W5) (n0_0 : Nat) (hb0_0 : LC x0.l_.length n0_0) (hs0_0 : SlA Ai F0 a0_0 x0.l_) (hs0 : HS wb Fb w0 F0 ((sb bp0 (Af x0 a0_0 n0_0) 100) :: Lf)) (r : (Ag ⊕ (Ab × Expr))) (h : FC N sR243 x0 = some r) :
  Calls Tryz.prog 239 ([(pt bp0 0)] : List Value).toArray w0 (Ct wb Fb F0 Lf r (fun b => (.iface 158 (.agg (A2 b)))) fun a F' v L' => ∃ (aq0_0 : W5) (nq0_0 : Nat) (aq1_2 : W5) (nq1_2 : Nat), v = (.agg (Ak a.2 aq1_2 nq1_2)) /\ L' = (sb bp0 (Af a.1 aq0_0 nq0_0) 100) :: Lf /\ LC a.1.l_.length nq0_0 /\ SlA Ai F' aq0_0 a.1.l_ /\ LC a.2.Kids.length nq1_2 /\ SlA Au F' aq1_2 a.2.Kids) := by
 refine Go 9 Tryz.func239 ?_
 refine Sq (Rg [0] ?_)
 refine Al' 33 #[(vi 0), (vi 0), (.slice none ([] : List Expr).length 0)] hs0 (fun b21 w22 hs23 => ?_)
 refine Nss (Rg [0, 1, 2, 3, 4, 5, 6, 7] ?_)
 refine Vs 3 ?_
 refine RWP.makeMap (t := 198) (K := FU) (T := Dr) (dst := (some 6)) (ty := 198) (g := none) (by kernel_rfl) rfl hs23 (fun b25 e26 w27 (hs28 : HS wb Fb w27 F0 (e26 :: (sb b21 #[(vi 0), (vi 0), (.slice none ([] : List Expr).length 0)] 33) :: (sb bp0 (Af x0 a0_0 n0_0) 100) :: Lf)) hr29 => ?_)
 refine RWP.mapIns kl9 (ty := 0) (g := none) (mt := 198) (k := 9) (vt := 3) (m := (.tmp 6)) (x := (.const (.string ⟨([42] : W4).toArray⟩))) (y := (.const (vi 10))) (b := b25) (kx := ([42] : W4)) (u := 10) (kv := (.string ⟨(([42] : W4)).toArray⟩)) (v := (vi 10)) (K := FU) (T := Dr) (by kernel_rfl) rfl rfl rfl rfl ⟨_, rfl, rfl⟩ ⟨_, rfl, rfl⟩ (by kernel_rfl) hs28 (q := 0) rfl hr29 (fun e30 w31 (hs32 : HS wb Fb w31 F0 (e30 :: (sb b21 #[(vi 0), (vi 0), (.slice none ([] : List Expr).length 0)] 33) :: (sb bp0 (Af x0 a0_0 n0_0) 100) :: Lf)) hr33 => ?_)
 refine Vs 1 ?_
 obtain ⟨F1, hs34, le35, hm36⟩ : ∃ Fq, HS wb Fb w31 Fq ((sb b21 #[(vi 0), (vi 0), (.slice none ([] : List Expr).length 0)] 33) :: (sb bp0 (Af x0 a0_0 n0_0) 100) :: Lf) /\ WI F0 Fq /\ MpA FU Dr Fq (some b25) (Gi ([] : List (W4 × Int)) ([42] : W4) 10) := HS.freezeMap hs32 (i := 0) rfl hr33
 obtain ⟨r37, hr38, h39⟩ := bind_some h
 refine CP Cn (Cz N (hG.mono le35) bp0 x0 a0_0 n0_0 hb0_0 (WL hs0_0 le35) 243 [(pt bp0 0)] ([] : List Value) (fun y => sR243 y) Ik (fun {_ _ _ _ _} hGe y ay_0 ny_0 hby_0 hsy_0 hs r h => hsR243 hGe bp0 y ay_0 ny_0 hby_0 hsy_0 hs r h) ((Gi ([] : List (W4 × Int)) ([42] : W4) 10)) (some b25) hm36 hs34.pk1 _ hr38) ?_ ?_
 ·rintro r40 _ F2 w42 _ rfl hs43 le44 ⟨ar40_0_0, nr40_0_0, ar40_1_2, nr40_1_2, rfl, rfl, hbr40_0_0, hsr40_0_0, hbr40_1_2, hsr40_1_2⟩
  have h46 := BQ h39
  refine St1 (Ak r40.2 ar40_1_2 nr40_1_2) hs43 (fun w47 hs48 => ?_)
  refine Nt ?_
  refine Rt ?_
  obtain rfl := Ac h46
  exact ⟨rfl, (.agg (Ak r40.2 ar40_1_2 nr40_1_2)), AN (l := [.cell 2 33]) (by kernel_rfl) (vs := [(.agg (Ak r40.2 ar40_1_2 nr40_1_2))]) ⟨b21, 0, rfl, Ao (t := 33) (g := true) (s := 3) (by kernel_rfl) hs48.at1 rfl (by decide), trivial⟩, .inl ⟨_, F2, _, _, rfl, rfl, hs48.dr1, (le35.trans le44), ⟨ar40_0_0, nr40_0_0, ar40_1_2, nr40_1_2, rfl, rfl, hbr40_0_0, hsr40_0_0, hbr40_1_2, hsr40_1_2⟩⟩⟩
 ·rintro b49 F3 w50 rfl hs51 le52
  have h53 := Bw h39
  refine Al ?_
  obtain rfl := Ac h53
  exact CW hs51.dr0 (le35.trans le52)
def AV (N : Nat) (x0 : Ab) (x1 : Int) (x2 : Int) : Option (Ag ⊕ Unit) :=
 some (.inl ({ e_ := x1, at_ := x2 } : Ag))
theorem AQ : As Tryz.prog 87 := fun _ _ => by kernel_rfl
theorem AW (N : Nat) {wb w0 : World} {Fb F0 : Mem} {Lf : Own} (bp0 : Nat) (x0 : Ab) (a0_0 : W5) (n0_0 : Nat) (hb0_0 : LC x0.l_.length n0_0) (hs0_0 : SlA Ai F0 a0_0 x0.l_) (x1 : Int) (x2 : Int) (hs0 : HS wb Fb w0 F0 ((sb bp0 (Af x0 a0_0 n0_0) 100) :: Lf)) (r : (Ag ⊕ Unit)) (h : AV N x0 x1 x2 = some r) :
  Calls Tryz.prog 87 ([(pt bp0 0), (vi x1), (vi x2)] : List Value).toArray w0 (Ct wb Fb F0 Lf r (fun b => (.iface 158 (.agg (A2 b)))) fun a F' v L' => v = (.tuple #[]) /\ L' = (sb bp0 (Af x0 a0_0 n0_0) 100) :: Lf) := by
 refine Go 10 Tryz.func87 ?_
 refine Rg [0, 1, 2, 3, 4] ?_
 refine Vs 3 ?_
 refine V 9 20 (Hn (t := 158) (x := (.tmp 8)) (v := (.agg #[(vi x1), (vi x2)])) rfl (by kernel_rfl)) ?_
 refine RWP.panics (dst := none) (ty := 0) (g := none) (by kernel_rfl) rfl (RN (x := (.tmp 9)) (t := 158) (v := (.agg #[(vi x1), (vi x2)])) rfl) rfl ?_
 obtain rfl := Ac h
 exact CW hs0.dr0 (WJ _)
def Ax (N : Nat) (x0 : Ab) (x1 : W4) : Option (Ag ⊕ Ab) :=
 ((Ap N x0 x1).bind fun r21 => (bif (!r21.2) then ((idx r21.1.l_ 0).bind fun x31 => ((AV N r21.1 60 x31.at_).bind fun r45 => sk r45 (fun b50 => some (.inl b50)) (fun r48 => none))) else some (.inr r21.1)))
theorem A3 : As Tryz.prog 135 := fun _ _ => by kernel_rfl
theorem A4 (N : Nat) {wb w0 : World} {Fb F0 : Mem} {Lf : Own} (bp0 : Nat) (x0 : Ab) (a0_0 : W5) (n0_0 : Nat) (hb0_0 : LC x0.l_.length n0_0) (hs0_0 : SlA Ai F0 a0_0 x0.l_) (x1 : W4) (hs0 : HS wb Fb w0 F0 ((sb bp0 (Af x0 a0_0 n0_0) 100) :: Lf)) (r : (Ag ⊕ Ab)) (h : Ax N x0 x1 = some r) :
  Calls Tryz.prog 135 ([(pt bp0 0), (.string ⟨(x1).toArray⟩)] : List Value).toArray w0 (Ct wb Fb F0 Lf r (fun b => (.iface 158 (.agg (A2 b)))) fun a F' v L' => ∃ (aq0_0 : W5) (nq0_0 : Nat), v = (.tuple #[]) /\ L' = (sb bp0 (Af a aq0_0 nq0_0) 100) :: Lf /\ LC a.l_.length nq0_0 /\ SlA Ai F' aq0_0 a.l_) := by
 refine Go 17 Tryz.func135 ?_
 refine Sq (Rg [0, 1, 2, 3] ?_)
 refine Vs 2 ?_
 obtain ⟨r21, hr22, h23⟩ := bind_some h
 refine CB AO (AU N bp0 x0 a0_0 n0_0 hb0_0 hs0_0 x1 hs0 _ hr22) ?_
 rintro _ F1 w24 _ hs25 le26 ⟨ar21_0_0, nr21_0_0, rfl, rfl, hbr21_0_0, hsr21_0_0⟩
 refine Vs 1 ?_
 refine Nt ?_
 refine Cd h23 (fun hb28 h29 => ?_) (fun hb28 h30 => ?_)
 ·refine Rg [0, 1, 2, 3, 4, 5, 6, 7, 8] ?_
  refine Vs 4 ?_
  refine Ld hs25.at0 ?_
  obtain ⟨x31, hx32, h34⟩ := bind_some h29
  obtain ⟨hi33, hx32'⟩ := Ay hx32
  obtain ⟨b35, o36, C37, E38, fz39, rfl, hF41, hE42⟩ := WT hsr21_0_0 hx32'
  have hc44 := hE42 _ _ hx32'
  refine Ix hi33 ?_
  refine Vs 1 ?_
  refine Lx 1 (hs25.pers _ _ hF41) hc44 ?_
  obtain ⟨r45, hr46, h47⟩ := bind_some h34
  refine CP AQ (AW N bp0 r21.1 (some ⟨b35, o36, none⟩) nr21_0_0 hbr21_0_0 hsr21_0_0 60 x31.at_ hs25 _ hr46) ?_ ?_
  ·rintro _ _ _ _ _ rfl _ _ _; cases hr46
  ·rintro b50 F3 w51 rfl hs52 le53
   have h54 := Bw h47
   obtain rfl := Ac h54
   exact CW hs52 (le26.trans le53)
 ·refine Sc ?_
  obtain rfl := Ac h30
  exact ReP [] hs25 le26 ⟨ar21_0_0, nr21_0_0, rfl, rfl, hbr21_0_0, hsr21_0_0⟩
def BU (N : Nat) (x0 : (List W4)) (x1 : W4) : Int -> Option (Be Int Int) := fun s24 =>
 (bif (decide (s24 < (x0.length : Int))) then ((idx x0 s24).bind fun x47 => (bif (x1 == x47) then some (.ret s24) else some (.next (W64 (s24 + 1))))) else some (.done s24))
def Ca (N : Nat) (x0 : (List W4)) (x1 : W4) : Option Int :=
 ((AL (BU N x0 x1) N 0).bind fun o => o.k (fun r => some r) (fun s33 => some (-1)))
theorem Fm : As Tryz.prog 247 := fun _ _ => by kernel_rfl
theorem FA (N : Nat) (w0 : World) (F0 : Mem) (hF : W6 w0 F0) (x0 : (List W4)) (a0_0 : W5) (n0_0 : Nat) (hb0_0 : LC x0.length n0_0) (hs0_0 : SlA FU F0 a0_0 x0) (x1 : W4) (r : Int) (h : Ca N x0 x1 = some r) :
  Calls Tryz.prog 247 ([(.slice a0_0 x0.length n0_0), (.string ⟨(x1).toArray⟩)] : List Value).toArray w0 (Bh w0 F0 fun F' v => v = (vi r)) := by
 have hs0 := WK hF
 refine Go 19 Tryz.func247 ?_
 refine Sq (Rg [0] ?_)
 refine Vs 1 ?_
 refine Nss ?_
 refine Sq (Rg [0, 1, 2] ?_)
 refine Vs 3 ?_
 refine Nt ?_
 obtain ⟨o21, ho22, h23⟩ := bind_some h
 refine WP (fun f w => ∃ (s33 : Int) (F2 : Mem), o21 = .done s33 /\ HS w0 F0 w F2 [] /\ WI F0 F2 /\ FI f [] []) ?_ ?_
 ·refine Bk ?_
  refine WH (by kernel_rfl) (fun m f w => ∃ (s24 : Int) (F1 : Mem), AL (BU N x0 x1) m s24 = some o21 /\ HS w0 F0 w F1 [] /\ WI F0 F1 /\ FI f [] [(0, (.slice a0_0 x0.length n0_0)), (1, (.string ⟨(x1).toArray⟩)), (7, (vi (x0.length : Int))), (8, (vi s24))]) N ⟨0, F0, ho22, hs0, (WJ _), fI⟩ ?_
  rintro m38 f w25 ⟨s24, F1, hit39, hs26, le27, ⟨_, rfl⟩⟩
  obtain ⟨m40, fl41, rfl, hb42, hnx43⟩ := Bn hit39
  refine Sq (Rg [0] ?_)
  refine Vs 1 ?_
  refine Nss ?_
  refine Cd hb42 (fun hb44 h45 => ?_) (fun hb44 h46 => ?_)
  ·refine Sc ?_
   refine Ad ?_
   refine Sq ?_
   refine Bk ?_
   refine Sq (Rg [0, 1] ?_)
   refine Vs 2 ?_
   refine Nss (Rg [0, 1, 2, 3, 4, 5] ?_)
   refine Vs 3 ?_
   obtain ⟨x47, hx48, h50⟩ := bind_some h45
   obtain ⟨hi49, hx48'⟩ := Ay hx48
   obtain ⟨b51, o52, C53, E54, fz55, rfl, hF57, hE58⟩ := WT (WL hs0_0 le27) hx48'
   have hc60 := hE58 _ _ hx48'
   refine Ix hi49 ?_
   refine Lx 0 (hs26.pers _ _ hF57) hc60 ?_
   refine Vs 1 ?_
   refine Nt ?_
   refine Cd h50 (fun hb61 h62 => ?_) (fun hb61 h63 => ?_)
   ·refine Sq (Rg [0, 1] ?_)
    refine Vs 2 ?_
    refine Nt ?_
    refine Rt ?_
    refine An ?_
    refine Aj ?_
    refine Aj ?_
    refine An ?_
    have hret := C4 h62 hnx43
    subst hret
    refine .inr ?_
    refine Aj ?_
    obtain rfl := Ac h23
    exact Re [(vi s24)] hs26 rfl
   ·refine Sc ?_
    refine AB ?_
    refine Ad ?_
    refine Rg [0, 1] ?_
    refine Vs 2 ?_
    refine WE ?_
    have hn64 := Bi h63 hnx43
    exact ⟨m40, Nat.lt_succ_self _, (W64 (s24 + 1)), F1, hn64, hs26, le27, fI⟩
  ·refine Ex ?_
   refine AJ ?_
   refine AJ ?_
   refine Bb rfl ?_
   have ho65 := Bt h46 hnx43
   exact .inl ⟨rfl, s24, F1, ho65, hs26, le27, fI⟩
 ·rintro f w34 ⟨s33, F2, rfl, hs35, le36, ⟨_, rfl⟩⟩
  have h66 := CK h23
  refine Ad ?_
  refine Sq (Rg [0] ?_)
  refine Vs 1 ?_
  refine Nt ?_
  refine Rt ?_
  obtain rfl := Ac h66
  exact Re [(vi (-1))] hs35 rfl
def BK (N : Nat) (x0 : Ab) : Option (Ag ⊕ Ab) :=
 ((idx x0.l_ 0).bind fun x21 => (((AH N x0 ([40] : W4)).bind fun r45 => (bif r45 then some (x0.open_ == 32) else some false)).bind fun j38 => (bif j38 then ((AV N x0 2 x21.at_).bind fun r58 => sk r58 (fun b63 => some (.inl b63)) (fun r61 => none)) else ((Ax N x0 ([40] : W4)).bind fun r69 => sk r69 (fun b81 => some (.inl b81)) (fun r72 => some (.inr ({ l_ := r72.l_, open_ := (W64 (r72.open_ + 1)) } : Ab)))))))
theorem EU : As Tryz.prog 249 := fun _ _ => by kernel_rfl
theorem Fv (N : Nat) {wb w0 : World} {Fb F0 : Mem} {Lf : Own} (bp0 : Nat) (x0 : Ab) (a0_0 : W5) (n0_0 : Nat) (hb0_0 : LC x0.l_.length n0_0) (hs0_0 : SlA Ai F0 a0_0 x0.l_) (hs0 : HS wb Fb w0 F0 ((sb bp0 (Af x0 a0_0 n0_0) 100) :: Lf)) (r : (Ag ⊕ Ab)) (h : BK N x0 = some r) :
  Calls Tryz.prog 249 ([(pt bp0 0)] : List Value).toArray w0 (Ct wb Fb F0 Lf r (fun b => (.iface 158 (.agg (A2 b)))) fun a F' v L' => ∃ (aq0_0 : W5) (nq0_0 : Nat), v = (.tuple #[]) /\ L' = (sb bp0 (Af a aq0_0 nq0_0) 100) :: Lf /\ LC a.l_.length nq0_0 /\ SlA Ai F' aq0_0 a.l_) := by
 refine Go 31 Tryz.func249 ?_
 refine Sq ?_
 refine Sq (Rg [0, 1, 2, 3, 4, 5, 6, 7] ?_)
 refine Vs 3 ?_
 refine Ld hs0.at0 ?_
 obtain ⟨x21, hx22, h24⟩ := bind_some h
 obtain ⟨hi23, hx22'⟩ := Ay hx22
 obtain ⟨b25, o26, C27, E28, fz29, rfl, hF31, hE32⟩ := WT hs0_0 hx22'
 have hc34 := hE32 _ _ hx22'
 refine Ix hi23 ?_
 refine Vs 1 ?_
 refine Lx 1 (hs0.pers _ _ hF31) hc34 ?_
 refine Vs 1 ?_
 refine Nss (Rg [0, 1, 2, 3, 4, 5, 6, 7, 8] ?_)
 obtain ⟨j38, hj43, h44⟩ := bind_some h24
 refine WO (fun f w => ∃ (F1 : Mem), HS wb Fb w F1 ((sb bp0 (Af x0 (some ⟨b25, o26, none⟩) n0_0) 100) :: Lf) /\ WI F0 F1 /\ FI f [] [(0, (pt bp0 0)), (2, (vi x21.at_)), (18, (.bool j38))]) ?_ ?_
 ·refine Vs 1 ?_
  obtain ⟨r45, hr46, h47⟩ := bind_some hj43
  refine CB C5 (De N bp0 x0 (some ⟨b25, o26, none⟩) n0_0 hb0_0 hs0_0 (([40] : W4)) hs0 _ hr46) ?_
  rintro _ F2 w48 _ hs49 le50 ⟨rfl, rfl⟩
  refine Vs 1 ?_
  refine Sp h47 (fun hb52 h53 => ?_) (fun hb52 h54 => ?_)
  ·refine Vgs hb52 3 ?_
   refine Lg hb52 hs49.at0 ?_
   refine Vgs hb52 1 ?_
   refine Pk1 hb52 ?_
   obtain rfl := Ac h53
   exact WE ⟨rfl, F2, hs49, le50, fI⟩
  ·refine Ss hb52 5 ?_
   refine Pk0 hb52 ?_
   obtain rfl := Ac h54
   exact WE ⟨rfl, F2, hs49, le50, fI⟩
 ·rintro f w35 ⟨F1, hs36, le37, ⟨_, rfl⟩⟩
  refine Ad ?_
  refine Cd h44 (fun hb55 h56 => ?_) (fun hb55 h57 => ?_)
  ·refine Rg [0, 1, 2] ?_
   refine Vs 2 ?_
   obtain ⟨r58, hr59, h60⟩ := bind_some h56
   refine CP AQ (AW N bp0 x0 (some ⟨b25, o26, none⟩) n0_0 hb0_0 (WL hs0_0 le37) 2 x21.at_ hs36 _ hr59) ?_ ?_
   ·rintro _ _ _ _ _ rfl _ _ _; cases hr59
   ·rintro b63 F4 w64 rfl hs65 le66
    have h67 := Bw h60
    refine Al ?_
    obtain rfl := Ac h67
    exact CW hs65 (le37.trans le66)
  ·refine Sc ?_
   refine Ad ?_
   refine Sq (Rg [0, 1] ?_)
   refine Vs 1 ?_
   obtain ⟨r69, hr70, h71⟩ := bind_some h57
   refine CP A3 (A4 N bp0 x0 (some ⟨b25, o26, none⟩) n0_0 hb0_0 (WL hs0_0 le37) (([40] : W4)) hs36 _ hr70) ?_ ?_
   ·rintro r72 _ F5 w74 _ rfl hs75 le76 ⟨ar72_0_0, nr72_0_0, rfl, rfl, hbr72_0_0, hsr72_0_0⟩
    have h78 := BQ h71
    refine Nt ?_
    refine Rg [0, 1, 2, 3, 4, 5, 6, 7] ?_
    refine Vs 3 ?_
    refine Ld hs75.at0 ?_
    refine Vs 3 ?_
    refine St0 #[(.slice ar72_0_0 r72.l_.length nr72_0_0), (vi (W64 (r72.open_ + 1)))] hs75 (fun w79 hs80 => ?_)
    refine WE ?_
    obtain rfl := Ac h78
    exact ReP [] hs80 (le37.trans le76) ⟨ar72_0_0, nr72_0_0, rfl, rfl, hbr72_0_0, hsr72_0_0⟩
   ·rintro b81 F6 w82 rfl hs83 le84
    have h85 := Bw h71
    refine Al ?_
    obtain rfl := Ac h85
    exact CW hs83 (le37.trans le84)
def BJ (N : Nat) (x0 : Ab) : Option (Ag ⊕ Ab) :=
 ((Ax N x0 ([41] : W4)).bind fun r21 => sk r21 (fun b33 => some (.inl b33)) (fun r24 => some (.inr ({ l_ := r24.l_, open_ := (W64 (r24.open_ - 1)) } : Ab))))
theorem ET : As Tryz.prog 250 := fun _ _ => by kernel_rfl
theorem Fu (N : Nat) {wb w0 : World} {Fb F0 : Mem} {Lf : Own} (bp0 : Nat) (x0 : Ab) (a0_0 : W5) (n0_0 : Nat) (hb0_0 : LC x0.l_.length n0_0) (hs0_0 : SlA Ai F0 a0_0 x0.l_) (hs0 : HS wb Fb w0 F0 ((sb bp0 (Af x0 a0_0 n0_0) 100) :: Lf)) (r : (Ag ⊕ Ab)) (h : BJ N x0 = some r) :
  Calls Tryz.prog 250 ([(pt bp0 0)] : List Value).toArray w0 (Ct wb Fb F0 Lf r (fun b => (.iface 158 (.agg (A2 b)))) fun a F' v L' => ∃ (aq0_0 : W5) (nq0_0 : Nat), v = (.tuple #[]) /\ L' = (sb bp0 (Af a aq0_0 nq0_0) 100) :: Lf /\ LC a.l_.length nq0_0 /\ SlA Ai F' aq0_0 a.l_) := by
 refine Go 11 Tryz.func250 ?_
 refine Sq (Rg [0, 1] ?_)
 refine Vs 1 ?_
 obtain ⟨r21, hr22, h23⟩ := bind_some h
 refine CP A3 (A4 N bp0 x0 a0_0 n0_0 hb0_0 hs0_0 (([41] : W4)) hs0 _ hr22) ?_ ?_
 ·rintro r24 _ F1 w26 _ rfl hs27 le28 ⟨ar24_0_0, nr24_0_0, rfl, rfl, hbr24_0_0, hsr24_0_0⟩
  have h30 := BQ h23
  refine Nt ?_
  refine Rg [0, 1, 2, 3, 4, 5, 6, 7] ?_
  refine Vs 3 ?_
  refine Ld hs27.at0 ?_
  refine Vs 3 ?_
  refine St0 #[(.slice ar24_0_0 r24.l_.length nr24_0_0), (vi (W64 (r24.open_ - 1)))] hs27 (fun w31 hs32 => ?_)
  refine WE ?_
  obtain rfl := Ac h30
  exact ReP [] hs32 le28 ⟨ar24_0_0, nr24_0_0, rfl, rfl, hbr24_0_0, hsr24_0_0⟩
 ·rintro b33 F2 w34 rfl hs35 le36
  have h37 := Bw h23
  refine Al ?_
  obtain rfl := Ac h37
  exact CW hs35 le36
def A6 (N : Nat) (sR145 : Ab -> Option (Ag ⊕ (Ab × Expr))) (x0 : Ab) : Option (Ag ⊕ (Ab × Expr)) :=
 ((idx x0.l_ 0).bind fun x24 => (((GA N ).bind fun r56 => ((Ca N r56 x24.text_).bind fun r64 => some r64)).bind fun j48 => (bif (x24.kind_ == 1) then ((Cm N x24.text_).bind fun r75 => (bif (r75.2 || ((decide ((x24.text_.length : Int) > 7)) || (decide (r75.1 > 1000000)))) then ((AV N x0 60 x24.at_).bind fun r97 => sk r97 (fun b102 => some (.inl b102)) (fun r100 => none)) else ((sub x0.l_ 1 (x0.l_.length : Int)).bind fun r108 => some (.inr (({ l_ := r108, open_ := x0.open_ } : Ab), ({ Op := 1, Value := r75.1, Kids := ([] : List Expr) } : Expr)))))) else (bif ((x24.kind_ == 2) && (decide (j48 >= 0))) then ((sub x0.l_ 1 (x0.l_.length : Int)).bind fun r133 => some (.inr (({ l_ := r133, open_ := x0.open_ } : Ab), ({ Op := 2, Value := j48, Kids := ([] : List Expr) } : Expr)))) else ((Ap N x0 ([105, 102] : W4)).bind fun r145 => (bif r145.2 then ((BK N r145.1).bind fun r155 => sk r155 (fun b291 => some (.inl b291)) (fun r158 => ((sR145 r158).bind fun r165 => sk r165 (fun b285 => some (.inl b285)) (fun r168 => ((Ax N r168.1 ([44] : W4)).bind fun r180 => sk r180 (fun b279 => some (.inl b279)) (fun r183 => ((sR145 r183).bind fun r190 => sk r190 (fun b273 => some (.inl b273)) (fun r193 => ((Ax N r193.1 ([44] : W4)).bind fun r206 => sk r206 (fun b267 => some (.inl b267)) (fun r209 => ((sR145 r209).bind fun r216 => sk r216 (fun b261 => some (.inl b261)) (fun r219 => ((BJ N r219.1).bind fun r232 => sk r232 (fun b254 => some (.inl b254)) (fun r235 => some (.inr (r235, ({ Op := 11, Value := 0, Kids := [r168.2, r193.2, r219.2] } : Expr))))))))))))))))) else ((AH N r145.1 ([40] : W4)).bind fun r297 => (bif r297 then ((BK N r145.1).bind fun r307 => sk r307 (fun b356 => some (.inl b356)) (fun r310 => ((sR145 r310).bind fun r317 => sk r317 (fun b350 => some (.inl b350)) (fun r320 => ((BJ N r320.1).bind fun r332 => sk r332 (fun b344 => some (.inl b344)) (fun r335 => some (.inr (r335, r320.2)))))))) else ((AV N r145.1 60 x24.at_).bind fun r362 => sk r362 (fun b367 => some (.inl b367)) (fun r365 => none))))))))))
theorem Iy (N : Nat) (sR145 : Ab -> Option (Ag ⊕ (Ab × Expr))) (hsR145 : OY sR145) {wb w0 : World} {Fb F0 : Mem} {Lf : Own} (hG : DD F0) (bp0 : Nat) (x0 : Ab) (a0_0 : W5) (n0_0 : Nat) (hb0_0 : LC x0.l_.length n0_0) (hs0_0 : SlA Ai F0 a0_0 x0.l_) (hs0 : HS wb Fb w0 F0 ((sb bp0 (Af x0 a0_0 n0_0) 100) :: Lf)) (r : (Ag ⊕ (Ab × Expr))) (h : A6 N sR145 x0 = some r) :
  Calls Tryz.prog 243 ([(pt bp0 0)] : List Value).toArray w0 (Ct wb Fb F0 Lf r (fun b => (.iface 158 (.agg (A2 b)))) fun a F' v L' => ∃ (aq0_0 : W5) (nq0_0 : Nat) (aq1_2 : W5) (nq1_2 : Nat), v = (.agg (Ak a.2 aq1_2 nq1_2)) /\ L' = (sb bp0 (Af a.1 aq0_0 nq0_0) 100) :: Lf /\ LC a.1.l_.length nq0_0 /\ SlA Ai F' aq0_0 a.1.l_ /\ LC a.2.Kids.length nq1_2 /\ SlA Au F' aq1_2 a.2.Kids) := by
 refine Go 112 Tryz.func243 ?_
 refine Sq (Rg [0] ?_)
 refine Al' 33 #[(vi 0), (vi 0), (.slice none ([] : List Expr).length 0)] hs0 (fun b21 w22 hs23 => ?_)
 refine Nss (Rg [0, 1, 2, 3, 4, 5, 6, 7] ?_)
 refine Vs 3 ?_
 refine Ld hs23.at1 ?_
 obtain ⟨x24, hx25, h27⟩ := bind_some h
 obtain ⟨hi26, hx25'⟩ := Ay hx25
 obtain ⟨b28, o29, C30, E31, fz32, rfl, hF34, hE35⟩ := WT hs0_0 hx25'
 have hc37 := hE35 _ _ hx25'
 refine Ix hi26 ?_
 refine Lx 0 (hs23.pers _ _ hF34) hc37 ?_
 refine Al' 97 #[(vi 0), (vi 0), (.string ⟨(([] : W4)).toArray⟩)] hs23 (fun b38 w39 hs40 => ?_)
 refine St0 (A7 x24) hs40 (fun w41 hs42 => ?_)
 refine Nss ?_
 refine Sq ?_
 obtain ⟨j48, hj54, h55⟩ := bind_some h27
 refine RD 5 5 [(sb b38 (A7 x24) 97), (sb b21 #[(vi 0), (vi 0), (.slice none ([] : List Expr).length 0)] 33), (sb bp0 (Af x0 (some ⟨b28, o29, none⟩) n0_0) 100)] [] hs42 (fun f w => ∃ (F1 : Mem), HS wb Fb w F1 ((sb b38 (A7 x24) 97) :: (sb b21 #[(vi 0), (vi 0), (.slice none ([] : List Expr).length 0)] 33) :: (sb bp0 (Af x0 (some ⟨b28, o29, none⟩) n0_0) 100) :: Lf) /\ WI F0 F1 /\ FI f [] [(0, (pt bp0 0)), (2, (pt b21 0)), (3, (pt b38 0)), (4, (vi j48))]) (fun wd43 hw44 => ?_) ?_
 ·refine Dv [1] ?_
  refine Dl 2 (fun _ hq => (hq.1.2 0 _ _ rfl)) ?_
  refine D1 0 ?_
  obtain ⟨r56, hr57, h58⟩ := bind_some hj54
  refine DCl Im hw44 (Jj N wd43 F0 hw44.pers  _ hr57) ?_
  rintro _ F2 w60 hs61 le62 ⟨ar56_0_0, nr56_0_0, rfl, hbr56_0_0, hsr56_0_0⟩
  refine D1 3 ?_
  obtain ⟨r64, hr65, h66⟩ := bind_some h58
  refine DCl Fm hs61 (FA N w60 F2 hs61.pers r56 ar56_0_0 nr56_0_0 hbr56_0_0 hsr56_0_0 x24.text_ _ hr65) ?_
  rintro _ F3 w68 hs69 le70 rfl
  refine Dv [4] ?_
  obtain rfl := Ac h66
  exact WY (by kernel_rfl) ⟨F3, hs69, (le62.trans le70), fI⟩
 ·rintro f w45 ⟨F1, hs46, le47, ⟨_, rfl⟩⟩
  refine Ad ?_
  refine Bk ?_
  refine Sq (Rg [0, 1, 2, 3] ?_)
  refine Vs 1 ?_
  refine Ld hs46.at0 ?_
  refine Vs 2 ?_
  refine Nt ?_
  refine Cd h55 (fun hb72 h73 => ?_) (fun hb72 h74 => ?_)
  ·refine Sq (Rg [0, 1, 2, 3, 4, 5, 6, 7] ?_)
   refine Vs 1 ?_
   refine Ld hs46.at0 ?_
   obtain ⟨r75, hr76, h77⟩ := bind_some h73
   refine Cl' LJ hs46 (MZ N w45 F1 hs46.pers (hG.mono le47) x24.text_ _ hr76) ?_
   rintro _ F4 w79 hs80 le81 ⟨vr75_1_0, rfl, her75_1_0⟩
   refine Vs 5 ?_
   refine Nss ?_
   refine Sq (Rg [0, 1, 2, 3, 4, 5, 6, 7, 8, 9, 10, 11] ?_)
   refine WO (fun f w => ∃ (F5 : Mem), HS wb Fb w F5 ((sb b38 (A7 x24) 97) :: (sb b21 #[(vi 0), (vi 0), (.slice none ([] : List Expr).length 0)] 33) :: (sb bp0 (Af x0 (some ⟨b28, o29, none⟩) n0_0) 100) :: Lf) /\ WI F4 F5 /\ FI f [] [(0, (pt bp0 0)), (2, (pt b21 0)), (3, (pt b38 0)), (5, (vi r75.1)), (42, (.bool (r75.2 || ((decide ((x24.text_.length : Int) > 7)) || (decide (r75.1 > 1000000))))))]) ?_ ?_
   ·refine Vs 1 ?_
    refine V 32 4 (Jr (t := 134) (t' := 134) (x := (.tmp 31)) (c := .nilIface) her75_1_0 rfl rfl (by kernel_rfl)) ?_
    refine Vs 1 ?_
    refine WN r75.2 (fun hb92 => ?_) (fun hb92 => ?_)
    ·refine Ss hb92 4 ?_
     refine Pk1 hb92 ?_
     refine Vs 1 ?_
     refine Ss (rfl : true = true) 2 ?_
     refine Pk1 (rfl : true = true) ?_
     exact WE ⟨rfl, F4, hs80, (WJ _), (fJ ⟨rfl, rfl, rfl, rfl, (congrArg Value.bool (HY hb92 rfl)), trivial⟩)⟩
    ·refine Vgs hb92 1 ?_
     refine Lg hb92 hs80.at0 ?_
     refine Vgs hb92 2 ?_
     refine Pk0 hb92 ?_
     refine Vs 1 ?_
     refine WN (decide ((x24.text_.length : Int) > 7)) (fun hb93 => ?_) (fun hb93 => ?_)
     ·refine Ss hb93 2 ?_
      refine Pk1 hb93 ?_
      exact WE ⟨rfl, F4, hs80, (WJ _), (fJ ⟨rfl, rfl, rfl, rfl, (congrArg Value.bool (C2 hb92 (HY hb93 rfl))), trivial⟩)⟩
     ·refine Vgs hb93 2 ?_
      refine Pk0 hb93 ?_
      exact WE ⟨rfl, F4, hs80, (WJ _), (fJ ⟨rfl, rfl, rfl, rfl, (congrArg Value.bool (C2 hb92 (C2 hb93 rfl))), trivial⟩)⟩
   ·rintro f w83 ⟨F5, hs84, le85, ⟨_, rfl⟩⟩
    refine Ad ?_
    refine Cd h77 (fun hb94 h95 => ?_) (fun hb94 h96 => ?_)
    ·refine Rg [0, 1, 2, 3] ?_
     refine Vs 2 ?_
     refine Ld hs84.at0 ?_
     obtain ⟨r97, hr98, h99⟩ := bind_some h95
     refine CP AQ (AW N bp0 x0 (some ⟨b28, o29, none⟩) n0_0 hb0_0 (WL hs0_0 ((le47.trans le81).trans le85)) 60 x24.at_ hs84.pk1.pk1.pk2 _ hr98) ?_ ?_
     ·rintro _ _ _ _ _ rfl _ _ _; cases hr98
     ·rintro b102 F7 w103 rfl hs104 le105
      have h106 := Bw h99
      refine Al ?_
      refine Bd ?_
      refine Al ?_
      obtain rfl := Ac h106
      exact CW hs104.dr0.dr0 (((le47.trans le81).trans le85).trans le105)
    ·refine Sc ?_
     refine Ad ?_
     refine Sq (Rg [0, 1, 2, 3, 4, 5, 6, 7, 8] ?_)
     refine Vs 4 ?_
     refine Ld hs84.at2 ?_
     obtain ⟨r108, hr109, h110⟩ := bind_some h96
     obtain ⟨a111, n112, hb113, hs114, hrun115⟩ := My (P := Tryz.prog) (T := Ai) (lo := (some (.const (vi 1)))) (hi := none) (mx := none) (t := 98) (E := 97) (by_ := 32) (c := n0_0) (a := (some ⟨b28, o29, none⟩)) (l := x0.l_) (r := r108) (il := 1) (ih := (x0.l_.length : Int)) (im := 0) (by kernel_rfl) (by kernel_rfl) hb0_0 (WL hs0_0 ((le47.trans le81).trans le85)) (fun h => by first | rfl | cases h) hr109
     refine V 52 98 (hrun115 (x := (.tmp 51)) rfl rfl rfl trivial) ?_
     refine Vs 2 ?_
     refine St2 #[(.slice a111 r108.length n112), (vi x0.open_)] hs84 (fun w116 hs117 => ?_)
     refine Nss (Rg [0, 1, 2] ?_)
     refine Vs 2 ?_
     refine St1 #[(vi 1), (vi r75.1), (.slice none ([] : List Expr).length 0)] hs117 (fun w118 hs119 => ?_)
     refine Nt ?_
     refine Rt ?_
     refine An ?_
     refine Aj ?_
     obtain rfl := Ac h110
     exact ⟨rfl, (.agg #[(vi 1), (vi r75.1), (.slice none ([] : List Expr).length 0)]), AN (l := [.cell 2 33]) (by kernel_rfl) (vs := [(.agg #[(vi 1), (vi r75.1), (.slice none ([] : List Expr).length 0)])]) ⟨b21, 0, rfl, Ao (t := 33) (g := true) (s := 3) (by kernel_rfl) hs119.at1 rfl (by decide), trivial⟩, .inl ⟨_, F5, _, _, rfl, rfl, hs119.dr0.dr0, ((le47.trans le81).trans le85), ⟨a111, n112, none, 0, rfl, rfl, hb113, hs114, WM, (.inl rfl)⟩⟩⟩
  ·refine Sq (Rg [0, 1, 2, 3, 4, 5, 6, 7] ?_)
   refine WO (fun f w => ∃ (F8 : Mem), HS wb Fb w F8 ((sb b38 (A7 x24) 97) :: (sb b21 #[(vi 0), (vi 0), (.slice none ([] : List Expr).length 0)] 33) :: (sb bp0 (Af x0 (some ⟨b28, o29, none⟩) n0_0) 100) :: Lf) /\ WI F1 F8 /\ FI f [] [(0, (pt bp0 0)), (2, (pt b21 0)), (3, (pt b38 0)), (4, (vi j48)), (57, (.bool ((x24.kind_ == 2) && (decide (j48 >= 0)))))]) ?_ ?_
   ·refine Vs 1 ?_
    refine Ld hs46.at0 ?_
    refine Vs 2 ?_
    refine WN (x24.kind_ == 2) (fun hb129 => ?_) (fun hb129 => ?_)
    ·refine Vgs hb129 2 ?_
     refine Pk1 hb129 ?_
     refine Vs 1 ?_
     exact WE ⟨rfl, F1, hs46, (WJ _), (fJ ⟨rfl, rfl, rfl, rfl, (congrArg Value.bool (Ey hb129 rfl)), trivial⟩)⟩
    ·refine Ss hb129 2 ?_
     refine Pk0 hb129 ?_
     refine Vs 1 ?_
     exact WE ⟨rfl, F1, hs46, (WJ _), (fJ ⟨rfl, rfl, rfl, rfl, (congrArg Value.bool (GJ hb129 rfl)), trivial⟩)⟩
   ·rintro f w120 ⟨F8, hs121, le122, ⟨_, rfl⟩⟩
    refine Ad ?_
    refine Cd h74 (fun hb130 h131 => ?_) (fun hb130 h132 => ?_)
    ·refine Sq (Rg [0, 1, 2, 3, 4, 5, 6, 7, 8] ?_)
     refine Vs 4 ?_
     refine Ld hs121.at2 ?_
     obtain ⟨r133, hr134, h135⟩ := bind_some h131
     obtain ⟨a136, n137, hb138, hs139, hrun140⟩ := My (P := Tryz.prog) (T := Ai) (lo := (some (.const (vi 1)))) (hi := none) (mx := none) (t := 98) (E := 97) (by_ := 32) (c := n0_0) (a := (some ⟨b28, o29, none⟩)) (l := x0.l_) (r := r133) (il := 1) (ih := (x0.l_.length : Int)) (im := 0) (by kernel_rfl) (by kernel_rfl) hb0_0 (WL hs0_0 (le47.trans le122)) (fun h => by first | rfl | cases h) hr134
     refine V 70 98 (hrun140 (x := (.tmp 69)) rfl rfl rfl trivial) ?_
     refine Vs 2 ?_
     refine St2 #[(.slice a136 r133.length n137), (vi x0.open_)] hs121 (fun w141 hs142 => ?_)
     refine Nss (Rg [0, 1, 2] ?_)
     refine Vs 2 ?_
     refine St1 #[(vi 2), (vi j48), (.slice none ([] : List Expr).length 0)] hs142 (fun w143 hs144 => ?_)
     refine Nt ?_
     refine Rt ?_
     refine An ?_
     refine Aj ?_
     obtain rfl := Ac h135
     exact ⟨rfl, (.agg #[(vi 2), (vi j48), (.slice none ([] : List Expr).length 0)]), AN (l := [.cell 2 33]) (by kernel_rfl) (vs := [(.agg #[(vi 2), (vi j48), (.slice none ([] : List Expr).length 0)])]) ⟨b21, 0, rfl, Ao (t := 33) (g := true) (s := 3) (by kernel_rfl) hs144.at1 rfl (by decide), trivial⟩, .inl ⟨_, F8, _, _, rfl, rfl, hs144.dr0.dr0, (le47.trans le122), ⟨a136, n137, none, 0, rfl, rfl, hb138, hs139, WM, (.inl rfl)⟩⟩⟩
    ·refine Sq (Rg [0, 1, 2] ?_)
     refine Vs 1 ?_
     obtain ⟨r145, hr146, h147⟩ := bind_some h132
     refine CB AO (AU N bp0 x0 (some ⟨b28, o29, none⟩) n0_0 hb0_0 (WL hs0_0 (le47.trans le122)) (([105, 102] : W4)) hs121.pk1.pk1.pk2 _ hr146) ?_
     rintro _ F9 w148 _ hs149 le150 ⟨ar145_0_0, nr145_0_0, rfl, rfl, hbr145_0_0, hsr145_0_0⟩
     refine Vs 1 ?_
     refine Nt ?_
     refine Cd h147 (fun hb152 h153 => ?_) (fun hb152 h154 => ?_)
     ·refine Sq (Rg [0, 1] ?_)
      refine Vs 1 ?_
      obtain ⟨r155, hr156, h157⟩ := bind_some h153
      refine CP EU (Fv N bp0 r145.1 ar145_0_0 nr145_0_0 hbr145_0_0 hsr145_0_0 hs149 _ hr156) ?_ ?_
      ·rintro r158 _ F10 w160 _ rfl hs161 le162 ⟨ar158_0_0, nr158_0_0, rfl, rfl, hbr158_0_0, hsr158_0_0⟩
       have h164 := BQ h157
       refine Nss (Rg [0, 1, 2, 3] ?_)
       refine Vs 1 ?_
       obtain ⟨r165, hr166, h167⟩ := bind_some h164
       refine CP Cs (hsR145 (hG.mono (((le47.trans le122).trans le150).trans le162)) bp0 r158 ar158_0_0 nr158_0_0 hbr158_0_0 hsr158_0_0 hs161 _ hr166) ?_ ?_
       ·rintro r168 _ F11 w170 _ rfl hs171 le172 ⟨ar168_0_0, nr168_0_0, ar168_1_2, nr168_1_2, rfl, rfl, hbr168_0_0, hsr168_0_0, hbr168_1_2, hsr168_1_2⟩
        have h174 := BQ h167
        refine Al' 33 #[(vi 0), (vi 0), (.slice none ([] : List Expr).length 0)] hs171 (fun b175 w176 hs177 => ?_)
        refine St0 (Ak r168.2 ar168_1_2 nr168_1_2) hs177 (fun w178 hs179 => ?_)
        refine Nss (Rg [0, 1] ?_)
        refine Vs 1 ?_
        obtain ⟨r180, hr181, h182⟩ := bind_some h174
        refine CP A3 (A4 N bp0 r168.1 ar168_0_0 nr168_0_0 hbr168_0_0 hsr168_0_0 (([44] : W4)) hs179.pk3.pk3.pk2.pk3 _ hr181) ?_ ?_
        ·rintro r183 _ F12 w185 _ rfl hs186 le187 ⟨ar183_0_0, nr183_0_0, rfl, rfl, hbr183_0_0, hsr183_0_0⟩
         have h189 := BQ h182
         refine Nss (Rg [0, 1, 2, 3] ?_)
         refine Vs 1 ?_
         obtain ⟨r190, hr191, h192⟩ := bind_some h189
         refine CP Cs (hsR145 (hG.mono (((((le47.trans le122).trans le150).trans le162).trans le172).trans le187)) bp0 r183 ar183_0_0 nr183_0_0 hbr183_0_0 hsr183_0_0 hs186 _ hr191) ?_ ?_
         ·rintro r193 _ F13 w195 _ rfl hs196 le197 ⟨ar193_0_0, nr193_0_0, ar193_1_2, nr193_1_2, rfl, rfl, hbr193_0_0, hsr193_0_0, hbr193_1_2, hsr193_1_2⟩
          have h199 := BQ h192
          refine Al' 33 #[(vi 0), (vi 0), (.slice none ([] : List Expr).length 0)] hs196 (fun b200 w201 hs202 => ?_)
          refine St0 (Ak r193.2 ar193_1_2 nr193_1_2) hs202 (fun w203 hs204 => ?_)
          refine Nss (Rg [0, 1] ?_)
          refine Vs 1 ?_
          have hs205 := hs204.pk4.pk4.pk4.pk3.pk4
          obtain ⟨r206, hr207, h208⟩ := bind_some h199
          refine CP A3 (A4 N bp0 r193.1 ar193_0_0 nr193_0_0 hbr193_0_0 hsr193_0_0 (([44] : W4)) hs205 _ hr207) ?_ ?_
          ·rintro r209 _ F14 w211 _ rfl hs212 le213 ⟨ar209_0_0, nr209_0_0, rfl, rfl, hbr209_0_0, hsr209_0_0⟩
           have h215 := BQ h208
           refine Nss (Rg [0, 1, 2, 3] ?_)
           refine Vs 1 ?_
           obtain ⟨r216, hr217, h218⟩ := bind_some h215
           refine CP Cs (hsR145 (hG.mono (((((((le47.trans le122).trans le150).trans le162).trans le172).trans le187).trans le197).trans le213)) bp0 r209 ar209_0_0 nr209_0_0 hbr209_0_0 hsr209_0_0 hs212 _ hr217) ?_ ?_
           ·rintro r219 _ F15 w221 _ rfl hs222 le223 ⟨ar219_0_0, nr219_0_0, ar219_1_2, nr219_1_2, rfl, rfl, hbr219_0_0, hsr219_0_0, hbr219_1_2, hsr219_1_2⟩
            have h225 := BQ h218
            refine Al' 33 #[(vi 0), (vi 0), (.slice none ([] : List Expr).length 0)] hs222 (fun b226 w227 hs228 => ?_)
            refine St0 (Ak r219.2 ar219_1_2 nr219_1_2) hs228 (fun w229 hs230 => ?_)
            refine Nss (Rg [0, 1] ?_)
            refine Vs 1 ?_
            have hs231 := hs230.pk5.pk5.pk5.pk5.pk4
            obtain ⟨r232, hr233, h234⟩ := bind_some h225
            refine CP ET (Fu N bp0 r219.1 ar219_0_0 nr219_0_0 hbr219_0_0 hsr219_0_0 hs231.pk5 _ hr233) ?_ ?_
            ·rintro r235 _ F16 w237 _ rfl hs238 le239 ⟨ar235_0_0, nr235_0_0, rfl, rfl, hbr235_0_0, hsr235_0_0⟩
             have h241 := BQ h234
             refine Nss (Rg [0, 1, 2, 3, 4, 5] ?_)
             refine Ld hs238.at3 ?_
             refine Ld hs238.at2 ?_
             refine Ld hs238.at1 ?_
             refine Bs 33 [(vi r168.2.Op), (vi r168.2.Value), (.slice ar168_1_2 r168.2.Kids.length nr168_1_2), (vi r193.2.Op), (vi r193.2.Value), (.slice ar193_1_2 r193.2.Kids.length nr193_1_2), (vi r219.2.Op), (vi r219.2.Value), (.slice ar219_1_2 r219.2.Kids.length nr219_1_2)] hs238 (fun b242 w243 hs244 => ?_)
             have hr246 : AC Au 33 F16 (some ⟨b242, 0, none⟩) 3 [r168.2, r193.2, r219.2] (some b242, .cells ([(vi r168.2.Op), (vi r168.2.Value), (.slice ar168_1_2 r168.2.Kids.length nr168_1_2), (vi r193.2.Op), (vi r193.2.Value), (.slice ar193_1_2 r193.2.Kids.length nr193_1_2), (vi r219.2.Op), (vi r219.2.Value), (.slice ar219_1_2 r219.2.Kids.length nr219_1_2)] : List Value).toArray 33 (0, 0)) := W0 ⟨(BG ⟨ar168_1_2, nr168_1_2, rfl, hbr168_1_2, (WL hsr168_1_2 ((((le187.trans le197).trans le213).trans le223).trans le239))⟩), ⟨(BG ⟨ar193_1_2, nr193_1_2, rfl, hbr193_1_2, (WL hsr193_1_2 ((le213.trans le223).trans le239))⟩), ⟨(BG ⟨ar219_1_2, nr219_1_2, rfl, hbr219_1_2, (WL hsr219_1_2 le239)⟩), rfl⟩⟩⟩ (by simp)
             refine Vs 1 ?_
             refine St6 #[(vi 11), (vi 0), (.slice (some ⟨b242, 0, none⟩) [r168.2, r193.2, r219.2].length 3)] hs244 (fun w247 hs248 => ?_)
             refine Nt ?_
             refine Rt ?_
             refine An ?_
             refine Aj ?_
             have hb252 := WZ hr246
             obtain ⟨F17, hs249, le250, hs251⟩ := hs248.fr0 hr246
             have hs253 := hs249.dr1.dr1.dr1.dr1.dr1
             obtain rfl := Ac h241
             exact ⟨rfl, (.agg #[(vi 11), (vi 0), (.slice (some ⟨b242, 0, none⟩) [r168.2, r193.2, r219.2].length 3)]), AN (l := [.cell 2 33]) (by kernel_rfl) (vs := [(.agg #[(vi 11), (vi 0), (.slice (some ⟨b242, 0, none⟩) [r168.2, r193.2, r219.2].length 3)])]) ⟨b21, 0, rfl, Ao (t := 33) (g := true) (s := 3) (by kernel_rfl) hs249.at5 rfl (by decide), trivial⟩, .inl ⟨_, F17, _, _, rfl, rfl, hs253, ((((((((((le47.trans le122).trans le150).trans le162).trans le172).trans le187).trans le197).trans le213).trans le223).trans le239).trans le250), ⟨ar235_0_0, nr235_0_0, (some ⟨b242, 0, none⟩), 3, rfl, rfl, hbr235_0_0, (WL hsr235_0_0 le250), hb252, hs251⟩⟩⟩
            ·rintro b254 F18 w255 rfl hs256 le257
             have h258 := Bw h234
             refine Al ?_
             refine Bd ?_
             refine Al ?_
             have hs260 := hs256.dr0.dr0.dr0.dr0.dr0
             obtain rfl := Ac h258
             exact CW hs260 (((((((((le47.trans le122).trans le150).trans le162).trans le172).trans le187).trans le197).trans le213).trans le223).trans le257)
           ·rintro b261 F19 w262 rfl hs263 le264
            have h265 := Bw h218
            refine Al ?_
            refine Bd ?_
            refine Al ?_
            obtain rfl := Ac h265
            exact CW hs263.dr0.dr0.dr0.dr0 ((((((((le47.trans le122).trans le150).trans le162).trans le172).trans le187).trans le197).trans le213).trans le264)
          ·rintro b267 F20 w268 rfl hs269 le270
           have h271 := Bw h208
           refine Al ?_
           refine Bd ?_
           refine Al ?_
           obtain rfl := Ac h271
           exact CW hs269.dr0.dr0.dr0.dr0 (((((((le47.trans le122).trans le150).trans le162).trans le172).trans le187).trans le197).trans le270)
         ·rintro b273 F21 w274 rfl hs275 le276
          have h277 := Bw h192
          refine Al ?_
          refine Bd ?_
          refine Al ?_
          obtain rfl := Ac h277
          exact CW hs275.dr0.dr0.dr0 ((((((le47.trans le122).trans le150).trans le162).trans le172).trans le187).trans le276)
        ·rintro b279 F22 w280 rfl hs281 le282
         have h283 := Bw h182
         refine Al ?_
         refine Bd ?_
         refine Al ?_
         obtain rfl := Ac h283
         exact CW hs281.dr0.dr0.dr0 (((((le47.trans le122).trans le150).trans le162).trans le172).trans le282)
       ·rintro b285 F23 w286 rfl hs287 le288
        have h289 := Bw h167
        refine Al ?_
        refine Bd ?_
        refine Al ?_
        obtain rfl := Ac h289
        exact CW hs287.dr0.dr0 ((((le47.trans le122).trans le150).trans le162).trans le288)
      ·rintro b291 F24 w292 rfl hs293 le294
       have h295 := Bw h157
       refine Al ?_
       refine Bd ?_
       refine Al ?_
       obtain rfl := Ac h295
       exact CW hs293.dr0.dr0 (((le47.trans le122).trans le150).trans le294)
     ·refine Sq (Rg [0, 1, 2] ?_)
      refine Vs 1 ?_
      obtain ⟨r297, hr298, h299⟩ := bind_some h154
      refine CB C5 (De N bp0 r145.1 ar145_0_0 nr145_0_0 hbr145_0_0 hsr145_0_0 (([40] : W4)) hs149 _ hr298) ?_
      rintro _ F25 w300 _ hs301 le302 ⟨rfl, rfl⟩
      refine Vs 1 ?_
      refine Nt ?_
      refine Cd h299 (fun hb304 h305 => ?_) (fun hb304 h306 => ?_)
      ·refine Sq (Rg [0, 1] ?_)
       refine Vs 1 ?_
       obtain ⟨r307, hr308, h309⟩ := bind_some h305
       refine CP EU (Fv N bp0 r145.1 ar145_0_0 nr145_0_0 hbr145_0_0 (WL hsr145_0_0 le302) hs301 _ hr308) ?_ ?_
       ·rintro r310 _ F26 w312 _ rfl hs313 le314 ⟨ar310_0_0, nr310_0_0, rfl, rfl, hbr310_0_0, hsr310_0_0⟩
        have h316 := BQ h309
        refine Nss (Rg [0, 1, 2, 3] ?_)
        refine Vs 1 ?_
        obtain ⟨r317, hr318, h319⟩ := bind_some h316
        refine CP Cs (hsR145 (hG.mono ((((le47.trans le122).trans le150).trans le302).trans le314)) bp0 r310 ar310_0_0 nr310_0_0 hbr310_0_0 hsr310_0_0 hs313 _ hr318) ?_ ?_
        ·rintro r320 _ F27 w322 _ rfl hs323 le324 ⟨ar320_0_0, nr320_0_0, ar320_1_2, nr320_1_2, rfl, rfl, hbr320_0_0, hsr320_0_0, hbr320_1_2, hsr320_1_2⟩
         have h326 := BQ h319
         refine Al' 33 #[(vi 0), (vi 0), (.slice none ([] : List Expr).length 0)] hs323 (fun b327 w328 hs329 => ?_)
         refine St0 (Ak r320.2 ar320_1_2 nr320_1_2) hs329 (fun w330 hs331 => ?_)
         refine Nss (Rg [0, 1] ?_)
         refine Vs 1 ?_
         obtain ⟨r332, hr333, h334⟩ := bind_some h326
         refine CP ET (Fu N bp0 r320.1 ar320_0_0 nr320_0_0 hbr320_0_0 hsr320_0_0 hs331.pk3.pk3.pk2.pk3 _ hr333) ?_ ?_
         ·rintro r335 _ F28 w337 _ rfl hs338 le339 ⟨ar335_0_0, nr335_0_0, rfl, rfl, hbr335_0_0, hsr335_0_0⟩
          have h341 := BQ h334
          refine Nss (Rg [0, 1] ?_)
          refine Ld hs338.at1 ?_
          refine St3 (Ak r320.2 ar320_1_2 nr320_1_2) hs338 (fun w342 hs343 => ?_)
          refine Nt ?_
          refine Rt ?_
          refine An ?_
          refine Aj ?_
          obtain rfl := Ac h341
          exact ⟨rfl, (.agg (Ak r320.2 ar320_1_2 nr320_1_2)), AN (l := [.cell 2 33]) (by kernel_rfl) (vs := [(.agg (Ak r320.2 ar320_1_2 nr320_1_2))]) ⟨b21, 0, rfl, Ao (t := 33) (g := true) (s := 3) (by kernel_rfl) hs343.at3 rfl (by decide), trivial⟩, .inl ⟨_, F28, _, _, rfl, rfl, hs343.dr1.dr1.dr1, ((((((le47.trans le122).trans le150).trans le302).trans le314).trans le324).trans le339), ⟨ar335_0_0, nr335_0_0, ar320_1_2, nr320_1_2, rfl, rfl, hbr335_0_0, hsr335_0_0, hbr320_1_2, (WL hsr320_1_2 le339)⟩⟩⟩
         ·rintro b344 F29 w345 rfl hs346 le347
          have h348 := Bw h334
          refine Al ?_
          refine Bd ?_
          refine Al ?_
          obtain rfl := Ac h348
          exact CW hs346.dr0.dr0.dr0 ((((((le47.trans le122).trans le150).trans le302).trans le314).trans le324).trans le347)
        ·rintro b350 F30 w351 rfl hs352 le353
         have h354 := Bw h319
         refine Al ?_
         refine Bd ?_
         refine Al ?_
         obtain rfl := Ac h354
         exact CW hs352.dr0.dr0 (((((le47.trans le122).trans le150).trans le302).trans le314).trans le353)
       ·rintro b356 F31 w357 rfl hs358 le359
        have h360 := Bw h309
        refine Al ?_
        refine Bd ?_
        refine Al ?_
        obtain rfl := Ac h360
        exact CW hs358.dr0.dr0 ((((le47.trans le122).trans le150).trans le302).trans le359)
      ·refine Sc ?_
       refine AB ?_
       refine Ad ?_
       refine Sq (Rg [0, 1, 2, 3] ?_)
       refine Vs 2 ?_
       refine Ld hs301.at1 ?_
       obtain ⟨r362, hr363, h364⟩ := bind_some h306
       refine CP AQ (AW N bp0 r145.1 ar145_0_0 nr145_0_0 hbr145_0_0 (WL hsr145_0_0 le302) 60 x24.at_ hs301 _ hr363) ?_ ?_
       ·rintro _ _ _ _ _ rfl _ _ _; cases hr363
       ·rintro b367 F33 w368 rfl hs369 le370
        have h371 := Bw h364
        refine Al ?_
        obtain rfl := Ac h371
        exact CW hs369.dr0.dr0 ((((le47.trans le122).trans le150).trans le302).trans le370)
structure VC where
 q145 : Ab -> Option (Ag ⊕ (Ab × Expr))
 q185 : Ab -> Option (Ag ⊕ (Ab × Expr))
 q212 : Ab -> Option (Ag ⊕ (Ab × Expr))
 q226 : Ab -> Option (Ag ⊕ (Ab × Expr))
 q233 : Ab -> Option (Ag ⊕ (Ab × Expr))
 q239 : Ab -> Option (Ag ⊕ (Ab × Expr))
 q243 : Ab -> Option (Ag ⊕ (Ab × Expr))
def Bj (N : Nat) : Nat -> VC
 | 0 => ⟨fun _ => none, fun _ => none, fun _ => none, fun _ => none, fun _ => none, fun _ => none, fun _ => none⟩
 | k + 1 => ⟨FD N (Bj N k).q185, FE N (Bj N k).q212, BF N (Bj N k).q212 (Bj N k).q226, BE N (Bj N k).q233, Ge N (Bj N k).q239, FC N (Bj N k).q243, A6 N (Bj N k).q145⟩
theorem NE (N : Nat) : ∀ k, OY (Bj N k).q145 /\ OW (Bj N k).q185 /\ L1 (Bj N k).q212 /\ OU (Bj N k).q226 /\ OT (Bj N k).q233 /\ OS (Bj N k).q239 /\ OR (Bj N k).q243
 | 0 => ⟨(by unfold OY; intros; rename_i h; cases h), (by unfold OW; intros; rename_i h; cases h), (by unfold L1; intros; rename_i h; cases h), (by unfold OU; intros; rename_i h; cases h), (by unfold OT; intros; rename_i h; cases h), (by unfold OS; intros; rename_i h; cases h), (by unfold OR; intros; rename_i h; cases h)⟩
 | k + 1 => by
  have ih := NE N k
  exact ⟨@Iz N (Bj N k).q185 ih.2.1, @IB N (Bj N k).q212 ih.2.2.1, @IA N (Bj N k).q212 ih.2.2.1 (Bj N k).q226 ih.2.2.2.1, @Iv N (Bj N k).q233 ih.2.2.2.2.1, @I5 N (Bj N k).q239 ih.2.2.2.2.2.1, @Iw N (Bj N k).q243 ih.2.2.2.2.2.2, @Iy N (Bj N k).q145 ih.1⟩
def Cw (N : Nat) (x0 : Ab) : Option (Ag ⊕ (Ab × Expr)) := (Bj N N).q145 x0
theorem I2 (N : Nat) {wb w0 : World} {Fb F0 : Mem} {Lf : Own} (hG : DD F0) (bp0 : Nat) (x0 : Ab) (a0_0 : W5) (n0_0 : Nat) (hb0_0 : LC x0.l_.length n0_0) (hs0_0 : SlA Ai F0 a0_0 x0.l_) (hs0 : HS wb Fb w0 F0 ((some bp0, (.cells #[(.slice a0_0 x0.l_.length n0_0), (.int .i64 x0.open_)] 100 (0, 0))) :: Lf)) (r : (Ag ⊕ (Ab × Expr))) (h : Cw N x0 = some r) :
  Calls Tryz.prog 145 ([(.pointer (some ⟨bp0, 0, none⟩))] : List Value).toArray w0 (Ct wb Fb F0 Lf r (fun b => (.iface 158 (.agg #[(.int .i64 b.e_), (.int .i64 b.at_)]))) fun a F' v L' => ∃ (aq0_0 : W5) (nq0_0 : Nat) (aq1_2 : W5) (nq1_2 : Nat), v = (.agg #[(.int .i64 a.2.Op), (.int .i64 a.2.Value), (.slice aq1_2 a.2.Kids.length nq1_2)]) /\ L' = (some bp0, (.cells #[(.slice aq0_0 a.1.l_.length nq0_0), (.int .i64 a.1.open_)] 100 (0, 0))) :: Lf /\ LC a.1.l_.length nq0_0 /\ SlA Ai F' aq0_0 a.1.l_ /\ LC a.2.Kids.length nq1_2 /\ SlA Au F' aq1_2 a.2.Kids) := (NE N N).1 hG bp0 x0 a0_0 n0_0 hb0_0 hs0_0 hs0 r h
def AD (N : Nat) (x0 : Ab) : Option (Ag ⊕ (Ab × BZ)) :=
 ((idx x0.l_ 0).bind fun x24 => ((Cw N x0).bind fun r38 => sk r38 (fun b50 => some (.inl b50)) (fun r41 => some (.inr (r41.1, ({ Expr := r41.2, at_ := x24.at_ } : BZ))))))
theorem Bm : As Tryz.prog 86 := fun _ _ => by kernel_rfl
theorem Br (N : Nat) {wb w0 : World} {Fb F0 : Mem} {Lf : Own} (hG : DD F0) (bp0 : Nat) (x0 : Ab) (a0_0 : W5) (n0_0 : Nat) (hb0_0 : LC x0.l_.length n0_0) (hs0_0 : SlA Ai F0 a0_0 x0.l_) (hs0 : HS wb Fb w0 F0 ((sb bp0 (Af x0 a0_0 n0_0) 100) :: Lf)) (r : (Ag ⊕ (Ab × BZ))) (h : AD N x0 = some r) :
  Calls Tryz.prog 86 ([(pt bp0 0)] : List Value).toArray w0 (Ct wb Fb F0 Lf r (fun b => (.iface 158 (.agg (A2 b)))) fun a F' v L' => ∃ (aq0_0 : W5) (nq0_0 : Nat) (aq1_2 : W5) (nq1_2 : Nat), v = (.agg (Am a.2 aq1_2 nq1_2)) /\ L' = (sb bp0 (Af a.1 aq0_0 nq0_0) 100) :: Lf /\ LC a.1.l_.length nq0_0 /\ SlA Ai F' aq0_0 a.1.l_ /\ LC a.2.Expr.Kids.length nq1_2 /\ SlA Au F' aq1_2 a.2.Expr.Kids) := by
 refine Go 15 Tryz.func86 ?_
 refine Sq (Rg [0] ?_)
 refine Al' 113 #[(vi 0), (vi 0), (.slice none ([] : List Expr).length 0), (vi 0)] hs0 (fun b21 w22 hs23 => ?_)
 refine Nss (Rg [0, 1, 2, 3, 4, 5, 6, 7] ?_)
 refine Vs 3 ?_
 refine Ld hs23.at1 ?_
 obtain ⟨x24, hx25, h27⟩ := bind_some h
 obtain ⟨hi26, hx25'⟩ := Ay hx25
 obtain ⟨b28, o29, C30, E31, fz32, rfl, hF34, hE35⟩ := WT hs0_0 hx25'
 have hc37 := hE35 _ _ hx25'
 refine Ix hi26 ?_
 refine Vs 1 ?_
 refine Lx 1 (hs23.pers _ _ hF34) hc37 ?_
 refine Vs 1 ?_
 refine Nss (Rg [0, 1, 2, 3, 4] ?_)
 refine Vs 1 ?_
 obtain ⟨r38, hr39, h40⟩ := bind_some h27
 refine CP Cs (I2 N hG bp0 x0 (some ⟨b28, o29, none⟩) n0_0 hb0_0 hs0_0 hs23.pk1 _ hr39) ?_ ?_
 ·rintro r41 _ F1 w43 _ rfl hs44 le45 ⟨ar41_0_0, nr41_0_0, ar41_1_2, nr41_1_2, rfl, rfl, hbr41_0_0, hsr41_0_0, hbr41_1_2, hsr41_1_2⟩
  have h47 := BQ h40
  refine Vs 2 ?_
  refine St1 #[(vi r41.2.Op), (vi r41.2.Value), (.slice ar41_1_2 r41.2.Kids.length nr41_1_2), (vi x24.at_)] hs44 (fun w48 hs49 => ?_)
  refine Nt ?_
  refine Rt ?_
  obtain rfl := Ac h47
  exact ⟨rfl, (.agg #[(vi r41.2.Op), (vi r41.2.Value), (.slice ar41_1_2 r41.2.Kids.length nr41_1_2), (vi x24.at_)]), AN (l := [.cell 2 113]) (by kernel_rfl) (vs := [(.agg #[(vi r41.2.Op), (vi r41.2.Value), (.slice ar41_1_2 r41.2.Kids.length nr41_1_2), (vi x24.at_)])]) ⟨b21, 0, rfl, Ao (t := 113) (g := true) (s := 4) (by kernel_rfl) hs49.at1 rfl (by decide), trivial⟩, .inl ⟨_, F1, _, _, rfl, rfl, hs49.dr1, le45, ⟨ar41_0_0, nr41_0_0, ar41_1_2, nr41_1_2, rfl, rfl, hbr41_0_0, hsr41_0_0, hbr41_1_2, hsr41_1_2⟩⟩⟩
 ·rintro b50 F2 w51 rfl hs52 le53
  have h54 := Bw h40
  refine Al ?_
  obtain rfl := Ac h54
  exact CW hs52.dr0 le53
def AE (N : Nat) (x0 : Ab) (x1 : BZ) (x2 : Int) : Option (Ag ⊕ Unit) :=
 ((EF N x1.Expr).bind fun r24 => ((GB N x1.Expr).bind fun r32 => (bif (decide (r32 > 32)) then ((AV N x0 2 x1.at_).bind fun r43 => sk r43 (fun b48 => some (.inl b48)) (fun r46 => none)) else (bif ((r24 == 0) || ((x2 != 0) && (r24 != x2))) then ((AV N x0 61 x1.at_).bind fun r66 => sk r66 (fun b71 => some (.inl b71)) (fun r69 => none)) else some (.inr ())))))
theorem Bq : As Tryz.prog 88 := fun _ _ => by kernel_rfl
theorem Bx (N : Nat) {wb w0 : World} {Fb F0 : Mem} {Lf : Own} (bp0 : Nat) (x0 : Ab) (a0_0 : W5) (n0_0 : Nat) (hb0_0 : LC x0.l_.length n0_0) (hs0_0 : SlA Ai F0 a0_0 x0.l_) (x1 : BZ) (a1_2 : W5) (n1_2 : Nat) (hb1_2 : LC x1.Expr.Kids.length n1_2) (hs1_2 : SlA Au F0 a1_2 x1.Expr.Kids) (x2 : Int) (hs0 : HS wb Fb w0 F0 ((sb bp0 (Af x0 a0_0 n0_0) 100) :: Lf)) (r : (Ag ⊕ Unit)) (h : AE N x0 x1 x2 = some r) :
  Calls Tryz.prog 88 ([(pt bp0 0), (.agg (Am x1 a1_2 n1_2)), (vi x2)] : List Value).toArray w0 (Ct wb Fb F0 Lf r (fun b => (.iface 158 (.agg (A2 b)))) fun a F' v L' => v = (.tuple #[]) /\ L' = (sb bp0 (Af x0 a0_0 n0_0) 100) :: Lf) := by
 refine Go 35 Tryz.func88 ?_
 refine Sq (Rg [0] ?_)
 refine Bx' 113 (Am x1 a1_2 n1_2) hs0 (fun b21 w22 hs23 => ?_)
 refine Nss (Rg [0, 1, 2, 3] ?_)
 refine Vs 1 ?_
 refine Ld hs23.at0 ?_
 obtain ⟨r24, hr25, h26⟩ := bind_some h
 refine Cl' Em hs23 (Gr N w22 F0 hs23.pers x1.Expr a1_2 n1_2 hb1_2 hs1_2 _ hr25) ?_
 rintro _ F1 w28 hs29 le30 rfl
 refine Vs 1 ?_
 refine Nt ?_
 refine Bk ?_
 refine Sq (Rg [0, 1, 2, 3, 4] ?_)
 refine Vs 1 ?_
 refine Ld hs29.at0 ?_
 obtain ⟨r32, hr33, h34⟩ := bind_some h26
 refine Cl' Gm hs29 (Jk N w28 F1 hs29.pers x1.Expr a1_2 n1_2 hb1_2 (WL hs1_2 le30) _ hr33) ?_
 rintro _ F2 w36 hs37 le38 rfl
 refine Vs 2 ?_
 refine Nt ?_
 refine Cd h34 (fun hb40 h41 => ?_) (fun hb40 h42 => ?_)
 ·refine Rg [0, 1, 2, 3] ?_
  refine Vs 2 ?_
  refine Ld hs37.at0 ?_
  obtain ⟨r43, hr44, h45⟩ := bind_some h41
  refine CP AQ (AW N bp0 x0 a0_0 n0_0 hb0_0 (WL hs0_0 (le30.trans le38)) 2 x1.at_ hs37.pk1 _ hr44) ?_ ?_
  ·rintro _ _ _ _ _ rfl _ _ _; cases hr44
  ·rintro b48 F4 w49 rfl hs50 le51
   have h52 := Bw h45
   refine Bd ?_
   obtain rfl := Ac h52
   exact CW hs50.dr0 ((le30.trans le38).trans le51)
 ·refine Sq (Rg [0, 1, 2, 3, 4, 5, 6, 7, 8, 9, 10, 11] ?_)
  refine WO (fun f w => ∃ (F5 : Mem), HS wb Fb w F5 ((sb b21 (Am x1 a1_2 n1_2) 113) :: (sb bp0 (Af x0 a0_0 n0_0) 100) :: Lf) /\ WI F2 F5 /\ FI f [] [(0, (pt bp0 0)), (4, (pt b21 0)), (19, (.bool ((r24 == 0) || ((x2 != 0) && (r24 != x2)))))]) ?_ ?_
  ·refine Vs 3 ?_
   refine WN (r24 == 0) (fun hb61 => ?_) (fun hb61 => ?_)
   ·refine Ss hb61 3 ?_
    refine Su' 3 ?_
    refine Ss hb61 1 ?_
    refine Pk1 hb61 ?_
    refine Vs 1 ?_
    exact WE ⟨rfl, F2, hs37, (WJ _), (fJ ⟨rfl, rfl, (congrArg Value.bool (HY hb61 rfl)), trivial⟩)⟩
   ·refine Vgs hb61 3 ?_
    refine WN (x2 != 0) (fun hb62 => ?_) (fun hb62 => ?_)
    ·refine Vgs hb62 3 ?_
     refine Pg1 hb61 hb62 ?_
     refine Pk0 hb61 ?_
     refine Vs 1 ?_
     exact WE ⟨rfl, F2, hs37, (WJ _), (fJ ⟨rfl, rfl, (congrArg Value.bool (C2 hb61 (Ey hb62 rfl))), trivial⟩)⟩
    ·refine Ss hb62 3 ?_
     refine Pg0 hb61 hb62 ?_
     refine Pk0 hb61 ?_
     refine Vs 1 ?_
     exact WE ⟨rfl, F2, hs37, (WJ _), (fJ ⟨rfl, rfl, (congrArg Value.bool (C2 hb61 (GJ hb62 rfl))), trivial⟩)⟩
  ·rintro f w54 ⟨F5, hs55, le56, ⟨_, rfl⟩⟩
   refine Ad ?_
   refine Cd h42 (fun hb63 h64 => ?_) (fun hb63 h65 => ?_)
   ·refine Rg [0, 1, 2, 3] ?_
    refine Vs 2 ?_
    refine Ld hs55.at0 ?_
    obtain ⟨r66, hr67, h68⟩ := bind_some h64
    refine CP AQ (AW N bp0 x0 a0_0 n0_0 hb0_0 (WL hs0_0 ((le30.trans le38).trans le56)) 61 x1.at_ hs55.pk1 _ hr67) ?_ ?_
    ·rintro _ _ _ _ _ rfl _ _ _; cases hr67
    ·rintro b71 F7 w72 rfl hs73 le74
     have h75 := Bw h68
     refine Bd ?_
     obtain rfl := Ac h75
     exact CW hs73.dr0 (((le30.trans le38).trans le56).trans le74)
   ·refine Sc ?_
    refine AB ?_
    obtain rfl := Ac h65
    exact ReP [] hs55.dr0 ((le30.trans le38).trans le56) ⟨rfl, rfl⟩
def EH (N : Nat) (x0 : Ab) (z0 : BZ) : Option (Ag ⊕ (Ab × BZ)) :=
 ((AD N x0).bind fun r21 => sk r21 (fun b83 => some (.inl b83)) (fun r24 => ((idx r24.1.l_ 0).bind fun x33 => (bif (x33.kind_ != 0) then ((idx r24.1.l_ 0).bind fun x50 => ((AV N r24.1 60 x50.at_).bind fun r56 => sk r56 (fun b61 => some (.inl b61)) (fun r59 => none))) else ((AE N r24.1 r24.2 0).bind fun r67 => sk r67 (fun b77 => some (.inl b77)) (fun r70 => some (.inr (r24.1, r24.2))))))))
theorem Ip : As Tryz.prog 85 := fun _ _ => by kernel_rfl
theorem I3 (N : Nat) {wb w0 : World} {Fb F0 : Mem} {Lf : Own} (hG : DD F0) (bp0 : Nat) (x0 : Ab) (a0_0 : W5) (n0_0 : Nat) (hb0_0 : LC x0.l_.length n0_0) (hs0_0 : SlA Ai F0 a0_0 x0.l_) (bz0 : Nat) (z0 : BZ) (az0_2 : W5) (nz0_2 : Nat) (hbz0_2 : LC z0.Expr.Kids.length nz0_2) (hsz0_2 : SlA Au F0 az0_2 z0.Expr.Kids) (hs0 : HS wb Fb w0 F0 ((sb bp0 (Af x0 a0_0 n0_0) 100) :: (sb bz0 (Am z0 az0_2 nz0_2) 113) :: Lf)) (r : (Ag ⊕ (Ab × BZ))) (h : EH N x0 z0 = some r) :
  Calls Tryz.prog 85 ([(pt bp0 0), (pt bz0 0)] : List Value).toArray w0 (Ct wb Fb F0 Lf r (fun b => (.iface 158 (.agg (A2 b)))) fun a F' v L' => ∃ (aq0_0 : W5) (nq0_0 : Nat) (aq1_2 : W5) (nq1_2 : Nat), v = (.tuple #[]) /\ L' = (sb bp0 (Af a.1 aq0_0 nq0_0) 100) :: (sb bz0 (Am a.2 aq1_2 nq1_2) 113) :: Lf /\ LC a.1.l_.length nq0_0 /\ SlA Ai F' aq0_0 a.1.l_ /\ LC a.2.Expr.Kids.length nq1_2 /\ SlA Au F' aq1_2 a.2.Expr.Kids) := by
 refine Go 25 Tryz.func85 ?_
 refine Sq (Rg [0, 1, 2] ?_)
 refine Vs 1 ?_
 obtain ⟨r21, hr22, h23⟩ := bind_some h
 refine CP Bm (Br N hG bp0 x0 a0_0 n0_0 hb0_0 hs0_0 hs0 _ hr22) ?_ ?_
 ·rintro r24 _ F1 w26 _ rfl hs27 le28 ⟨ar24_0_0, nr24_0_0, ar24_1_2, nr24_1_2, rfl, rfl, hbr24_0_0, hsr24_0_0, hbr24_1_2, hsr24_1_2⟩
  have h30 := BQ h23
  refine St1 (Am r24.2 ar24_1_2 nr24_1_2) hs27 (fun w31 hs32 => ?_)
  refine Nss ?_
  refine Sq (Rg [0, 1, 2, 3, 4, 5, 6, 7] ?_)
  refine Vs 3 ?_
  refine Ld hs32.at0 ?_
  obtain ⟨x33, hx34, h36⟩ := bind_some h30
  obtain ⟨hi35, hx34'⟩ := Ay hx34
  obtain ⟨b37, o38, C39, E40, fz41, rfl, hF43, hE44⟩ := WT hsr24_0_0 hx34'
  have hc46 := hE44 _ _ hx34'
  refine Ix hi35 ?_
  refine Vs 1 ?_
  refine Lx 0 (hs32.pers _ _ hF43) hc46 ?_
  refine Vs 1 ?_
  refine Nt ?_
  refine Cd h36 (fun hb47 h48 => ?_) (fun hb47 h49 => ?_)
  ·refine Rg [0, 1, 2, 3, 4, 5, 6, 7, 8] ?_
   refine Vs 4 ?_
   refine Ld hs32.at0 ?_
   obtain ⟨x50, hx51, h53⟩ := bind_some h48
   obtain ⟨hi52, hx51'⟩ := Ay hx51
   have hc55 := hE44 _ _ hx51'
   refine Ix hi52 ?_
   refine Vs 1 ?_
   refine Lx 1 (hs32.pers _ _ hF43) hc55 ?_
   obtain ⟨r56, hr57, h58⟩ := bind_some h53
   refine CP AQ (AW N bp0 r24.1 (some ⟨b37, o38, none⟩) nr24_0_0 hbr24_0_0 hsr24_0_0 60 x50.at_ hs32 _ hr57) ?_ ?_
   ·rintro _ _ _ _ _ rfl _ _ _; cases hr57
   ·rintro b61 F3 w62 rfl hs63 le64
    have h65 := Bw h58
    refine Al ?_
    obtain rfl := Ac h65
    exact CW hs63.dr0 (le28.trans le64)
  ·refine Sc ?_
   refine Ad ?_
   refine Rg [0, 1, 2] ?_
   refine Vs 1 ?_
   refine Ld hs32.at1 ?_
   obtain ⟨r67, hr68, h69⟩ := bind_some h49
   refine CP Bq (Bx N bp0 r24.1 (some ⟨b37, o38, none⟩) nr24_0_0 hbr24_0_0 hsr24_0_0 r24.2 ar24_1_2 nr24_1_2 hbr24_1_2 hsr24_1_2 0 hs32 _ hr68) ?_ ?_
   ·rintro r70 _ F4 w72 _ rfl hs73 le74 ⟨rfl, rfl⟩
    have h76 := BQ h69
    refine WE ?_
    obtain rfl := Ac h76
    exact ReP [] hs73 (le28.trans le74) ⟨(some ⟨b37, o38, none⟩), nr24_0_0, ar24_1_2, nr24_1_2, rfl, rfl, hbr24_0_0, (WL hsr24_0_0 le74), hbr24_1_2, (WL hsr24_1_2 le74)⟩
   ·rintro b77 F5 w78 rfl hs79 le80
    have h81 := Bw h69
    obtain rfl := Ac h81
    exact CW hs79.dr0 (le28.trans le80)
 ·rintro b83 F6 w84 rfl hs85 le86
  have h87 := Bw h23
  refine Al ?_
  obtain rfl := Ac h87
  exact CW hs85.dr0 le86
def Bz (N : Nat) (x0 : Ab) : Option (Ag ⊕ Unit) :=
 (((idx x0.l_ 0).bind fun x30 => (bif (x30.kind_ != 0) then ((AH N x0 ([10] : W4)).bind fun r47 => some (!r47)) else some false)).bind fun j24 => (bif j24 then ((idx x0.l_ 0).bind fun x57 => ((AV N x0 60 x57.at_).bind fun r71 => sk r71 (fun b76 => some (.inl b76)) (fun r74 => none))) else some (.inr ())))
theorem CU : As Tryz.prog 136 := fun _ _ => by kernel_rfl
theorem C6 (N : Nat) {wb w0 : World} {Fb F0 : Mem} {Lf : Own} (bp0 : Nat) (x0 : Ab) (a0_0 : W5) (n0_0 : Nat) (hb0_0 : LC x0.l_.length n0_0) (hs0_0 : SlA Ai F0 a0_0 x0.l_) (hs0 : HS wb Fb w0 F0 ((sb bp0 (Af x0 a0_0 n0_0) 100) :: Lf)) (r : (Ag ⊕ Unit)) (h : Bz N x0 = some r) :
  Calls Tryz.prog 136 ([(pt bp0 0)] : List Value).toArray w0 (Ct wb Fb F0 Lf r (fun b => (.iface 158 (.agg (A2 b)))) fun a F' v L' => v = (.tuple #[]) /\ L' = (sb bp0 (Af x0 a0_0 n0_0) 100) :: Lf) := by
 refine Go 24 Tryz.func136 ?_
 refine Sq (Rg [0, 1, 2, 3, 4, 5, 6, 7, 8, 9, 10, 11, 12] ?_)
 obtain ⟨j24, hj28, h29⟩ := bind_some h
 refine WO (fun f w => ∃ (F1 : Mem), HS wb Fb w F1 ((sb bp0 (Af x0 a0_0 n0_0) 100) :: Lf) /\ WI F0 F1 /\ FI f [] [(0, (pt bp0 0)), (14, (.bool j24))]) ?_ ?_
 ·refine Vs 3 ?_
  refine Ld hs0.at0 ?_
  obtain ⟨x30, hx31, h33⟩ := bind_some hj28
  obtain ⟨hi32, hx31'⟩ := Ay hx31
  obtain ⟨b34, o35, C36, E37, fz38, rfl, hF40, hE41⟩ := WT hs0_0 hx31'
  have hc43 := hE41 _ _ hx31'
  refine Ix hi32 ?_
  refine Vs 1 ?_
  refine Lx 0 (hs0.pers _ _ hF40) hc43 ?_
  refine Vs 2 ?_
  refine Sp h33 (fun hb44 h45 => ?_) (fun hb44 h46 => ?_)
  ·refine Vgs hb44 1 ?_
   obtain ⟨r47, hr48, h49⟩ := bind_some h45
   refine RWP.callB (dst := (some 12)) (ty := 4) (g := (some (8, true))) (by kernel_rfl) (MN (d := 10) (by kernel_rfl) rfl hb44) (f0 := (.func 134)) (aos := #[(.tmp 11), (.const (.string ⟨([10] : W4).toArray⟩))]) (ats := #[95, 9]) (fid := 134) (first := #[]) (cap := #[]) (args := [(pt bp0 0), (.string ⟨(([10] : W4)).toArray⟩)]) rfl C5 rfl (De N bp0 x0 (some ⟨b34, o35, none⟩) n0_0 hb0_0 hs0_0 (([10] : W4)) hs0 _ hr48) ?_
   rintro _ F2 w50 _ hs51 le52 ⟨rfl, rfl⟩
   refine Vgs hb44 1 ?_
   refine Pk1 hb44 ?_
   obtain rfl := Ac h49
   exact WE ⟨rfl, F2, hs51, le52, fI⟩
  ·refine Ss hb44 3 ?_
   refine Pk0 hb44 ?_
   obtain rfl := Ac h46
   exact WE ⟨rfl, F0, hs0, (WJ _), fI⟩
 ·rintro f w21 ⟨F1, hs22, le23, ⟨_, rfl⟩⟩
  refine Ad ?_
  refine Cd h29 (fun hb54 h55 => ?_) (fun hb54 h56 => ?_)
  ·refine Rg [0, 1, 2, 3, 4, 5, 6, 7, 8] ?_
   refine Vs 4 ?_
   refine Ld hs22.at0 ?_
   obtain ⟨x57, hx58, h60⟩ := bind_some h55
   obtain ⟨hi59, hx58'⟩ := Ay hx58
   obtain ⟨b61, o62, C63, E64, fz65, rfl, hF67, hE68⟩ := WT (WL hs0_0 le23) hx58'
   have hc70 := hE68 _ _ hx58'
   refine Ix hi59 ?_
   refine Vs 1 ?_
   refine Lx 1 (hs22.pers _ _ hF67) hc70 ?_
   obtain ⟨r71, hr72, h73⟩ := bind_some h60
   refine CP AQ (AW N bp0 x0 (some ⟨b61, o62, none⟩) n0_0 hb0_0 (WL hs0_0 le23) 60 x57.at_ hs22 _ hr72) ?_ ?_
   ·rintro _ _ _ _ _ rfl _ _ _; cases hr72
   ·rintro b76 F4 w77 rfl hs78 le79
    have h80 := Bw h73
    obtain rfl := Ac h80
    exact CW hs78 (le23.trans le79)
  ·refine Sc ?_
   obtain rfl := Ac h56
   exact ReP [] hs22 le23 ⟨rfl, rfl⟩
def Ce (N : Nat) (x0 : Ab) (x1 : (List Expr)) (x2 : Int) : Option (Ag ⊕ Unit) :=
 (bif ((x1.length : Int) == 64) then ((AV N x0 2 x2).bind fun r24 => sk r24 (fun b29 => some (.inl b29)) (fun r27 => none)) else some (.inr ()))
theorem Hw : As Tryz.prog 137 := fun _ _ => by kernel_rfl
theorem HK (N : Nat) {wb w0 : World} {Fb F0 : Mem} {Lf : Own} (bp0 : Nat) (x0 : Ab) (a0_0 : W5) (n0_0 : Nat) (hb0_0 : LC x0.l_.length n0_0) (hs0_0 : SlA Ai F0 a0_0 x0.l_) (x1 : (List Expr)) (a1_0 : W5) (n1_0 : Nat) (x2 : Int) (hs0 : HS wb Fb w0 F0 ((sb bp0 (Af x0 a0_0 n0_0) 100) :: Lf)) (r : (Ag ⊕ Unit)) (h : Ce N x0 x1 x2 = some r) :
  Calls Tryz.prog 137 ([(pt bp0 0), (.slice a1_0 x1.length n1_0), (vi x2)] : List Value).toArray w0 (Ct wb Fb F0 Lf r (fun b => (.iface 158 (.agg (A2 b)))) fun a F' v L' => v = (.tuple #[]) /\ L' = (sb bp0 (Af x0 a0_0 n0_0) 100) :: Lf) := by
 refine Go 12 Tryz.func137 ?_
 refine Sq (Rg [0, 1, 2] ?_)
 refine Vs 3 ?_
 refine Nt ?_
 refine Cd h (fun hb21 h22 => ?_) (fun hb21 h23 => ?_)
 ·refine Rg [0, 1, 2] ?_
  refine Vs 2 ?_
  obtain ⟨r24, hr25, h26⟩ := bind_some h22
  refine CP AQ (AW N bp0 x0 a0_0 n0_0 hb0_0 hs0_0 2 x2 hs0 _ hr25) ?_ ?_
  ·rintro _ _ _ _ _ rfl _ _ _; cases hr25
  ·rintro b29 F2 w30 rfl hs31 le32
   have h33 := Bw h26
   obtain rfl := Ac h33
   exact CW hs31 le32
 ·refine Sc ?_
  obtain rfl := Ac h23
  exact ReP [] hs0 (WJ _) ⟨rfl, rfl⟩
def Bp (N : Nat) (x0 : Ab) (x1 : (List Clause)) (x2 : Int) : Option (Ag ⊕ Unit) :=
 (bif ((x1.length : Int) == 64) then ((AV N x0 2 x2).bind fun r24 => sk r24 (fun b29 => some (.inl b29)) (fun r27 => none)) else some (.inr ()))
theorem C9 : As Tryz.prog 138 := fun _ _ => by kernel_rfl
theorem Dq (N : Nat) {wb w0 : World} {Fb F0 : Mem} {Lf : Own} (bp0 : Nat) (x0 : Ab) (a0_0 : W5) (n0_0 : Nat) (hb0_0 : LC x0.l_.length n0_0) (hs0_0 : SlA Ai F0 a0_0 x0.l_) (x1 : (List Clause)) (a1_0 : W5) (n1_0 : Nat) (x2 : Int) (hs0 : HS wb Fb w0 F0 ((sb bp0 (Af x0 a0_0 n0_0) 100) :: Lf)) (r : (Ag ⊕ Unit)) (h : Bp N x0 x1 x2 = some r) :
  Calls Tryz.prog 138 ([(pt bp0 0), (.slice a1_0 x1.length n1_0), (vi x2)] : List Value).toArray w0 (Ct wb Fb F0 Lf r (fun b => (.iface 158 (.agg (A2 b)))) fun a F' v L' => v = (.tuple #[]) /\ L' = (sb bp0 (Af x0 a0_0 n0_0) 100) :: Lf) := by
 refine Go 12 Tryz.func138 ?_
 refine Sq (Rg [0, 1, 2] ?_)
 refine Vs 3 ?_
 refine Nt ?_
 refine Cd h (fun hb21 h22 => ?_) (fun hb21 h23 => ?_)
 ·refine Rg [0, 1, 2] ?_
  refine Vs 2 ?_
  obtain ⟨r24, hr25, h26⟩ := bind_some h22
  refine CP AQ (AW N bp0 x0 a0_0 n0_0 hb0_0 hs0_0 2 x2 hs0 _ hr25) ?_ ?_
  ·rintro _ _ _ _ _ rfl _ _ _; cases hr25
  ·rintro b29 F2 w30 rfl hs31 le32
   have h33 := Bw h26
   obtain rfl := Ac h33
   exact CW hs31 le32
 ·refine Sc ?_
  obtain rfl := Ac h23
  exact ReP [] hs0 (WJ _) ⟨rfl, rfl⟩
def I7 (b : Nat) (S : W4 -> Option Value) (e : Option Nat × Obj) : Prop :=
 ∃ es clk, e = (some b, .map es clk) /\ ∀ k : W4, ∃ r, Instr.findNow .string (.string ⟨k.toArray⟩) es.toList 0 = some r /\ r.map (·.2) = S k
def FK (S : W4 -> Option Value) (k : W4) (v : Value) : W4 -> Option Value := fun x => if x = k then some v else S x
theorem J6 {d : TypeDesc} {k : Value} {e : MapEntry} {b : Bool} (hs : Instr.sameNow d k e.key = some b) : ∀ (es : List MapEntry) (i : Nat) (r : Option (Nat × Value)), Instr.findNow d k es i = some r ->
  ∃ r', Instr.findNow d k (es ++ [e]) i = some r' /\ r'.map (·.2) = match r with | some p => some p.2 | none => if b then some e.val else none
 | [], i, r, h => by
  simp only [Instr.findNow, Option.some.injEq] at h; subst h
  cases b with
  | true => exact ⟨some (i, e.val), by simp [Instr.findNow, hs], rfl⟩
  | false => exact ⟨none, by simp [Instr.findNow, hs], rfl⟩
 | x :: es, i, r, h => by
  unfold Instr.findNow at h
  cases hx : Instr.sameNow d k x.key with
  | none => rw [hx] at h; cases h
  | some c =>
   rw [hx] at h
   cases c with
   | true => simp only [Option.some.injEq] at h; subst h; exact ⟨some (i, x.val), by simp [Instr.findNow, hx], rfl⟩
   | false =>
    simp only at h
    obtain ⟨r', h1, h2⟩ := J6 hs es (i + 1) r h
    exact ⟨r', by simp [Instr.findNow, hx, h1], h2⟩
theorem I7.ins {b clk : Nat} {S : W4 -> Option Value} {es : Array MapEntry} (h : ∀ k : W4, ∃ r, Instr.findNow .string (.string ⟨k.toArray⟩) es.toList 0 = some r /\ r.map (·.2) = S k) (k0 : W4) (v : Value) (hn : S k0 = none) :
  I7 b (FK S k0 v) (some b, .map (es.push ⟨.string ⟨k0.toArray⟩, v, clk⟩) (clk + 1)) := by
 refine ⟨_, _, rfl, fun k => ?_⟩
 obtain ⟨r, h1, h2⟩ := h k
 have hs : Instr.sameNow .string (.string ⟨k.toArray⟩) (.string ⟨k0.toArray⟩) = some (decide (k = k0)) := by
  simp only [Instr.sameNow, Option.some.injEq]
  rw [beq_toListBytes, ByteArray.toList_eq, ByteArray.toList_eq, Bool.eq_iff_iff]; simp
 obtain ⟨r', h3, h4⟩ := J6 (e := ⟨.string ⟨k0.toArray⟩, v, clk⟩) hs es.toList 0 r h1
 refine ⟨r', by rw [Array.toList_push]; exact h3, ?_⟩
 rw [h4]
 unfold FK
 cases r with
 | some p =>
  simp only at h2 ⊢
  have hne : k ≠ k0 := fun e => by rw [e, hn] at h2; cases h2
  rw [if_neg hne, <- h2]; rfl
 | none =>
  simp only at h2 ⊢
  by_cases hk : k = k0
  ·simp [hk]
  ·simp only [hk, decide_false, Bool.false_eq_true, if_false]; rw [<- h2]; rfl
theorem I7.nil (b : Nat) : I7 b (fun _ => none) (some b, .map #[] 0) := ⟨_, _, rfl, fun _ => ⟨none, rfl, rfl⟩⟩
theorem I7.congr {b : Nat} {S S' : W4 -> Option Value} {e : Option Nat × Obj} (h : I7 b S e) (hs : ∀ k, S k = S' k) : I7 b S' e := by
 obtain ⟨es, clk, h1, h2⟩ := h; exact ⟨es, clk, h1, fun k => by rw [<- hs k]; exact h2 k⟩
section
variable {P : Program} {w w0 : World} {F0 F : Mem} {L : Own} {ρ : Operand -> Value} {ty : TypeId}
theorem HS.ownAt' {k : Nat} {e : Option Nat × Obj} (h : HS w0 F0 w F L) (hk : L[k]? = some e) : ∀ b o, e = (some b, o) -> w.heap[b]? = some o := fun b o he => h.ownAt (by rw [hk, he])
theorem HP {mt k vt : TypeId} {m x : Operand} {b : Nat} {S : W4 -> Option Value} {e : Option Nat × Obj} {t : W4} {v : Value} (hm : ρ m = .map (some b)) (hx : ρ x = .string ⟨t.toArray⟩) (hu : P.underlying mt = some (.map k vt)) (hk : P.underlying k = some .string)
  (hw : ∀ b o, e = (some b, o) -> w.heap[b]? = some o) (hp : I7 b S e) (hS : S t = some v) : (Ar ρ (.lookup mt m x true) ty).run P w = .ok (.value (.tuple #[v, .bool true])) w := by
 obtain ⟨es, clk, rfl, h2⟩ := hp
 have hb := hw b _ rfl
 obtain ⟨r, h3, h4⟩ := h2 t
 rw [hS] at h4
 cases r with
 | none => cases h4
 | some p =>
  obtain ⟨i, v'⟩ := p
  simp only [Option.map_some, Option.some.injEq] at h4
  subst h4
  have e : Ar ρ (.lookup mt m x true) ty = (do pure (Next.value (<- Instr.lookup mt (ρ m) (ρ x) true))) := rfl
  rw [e, hm, hx]
  simp [Instr.lookup, run_underlying hu, MapKept.run_getObj_map hb, MapKept.run_checkKey hk (k := .string ⟨t.toArray⟩) trivial, MapKept.run_findKey hk h3, Result.andThen]
theorem Pf {mt k vt : TypeId} {m x : Operand} {b : Nat} {S : W4 -> Option Value} {e : Option Nat × Obj} {t : W4} (hm : ρ m = .map (some b)) (hx : ρ x = .string ⟨t.toArray⟩) (hu : P.underlying mt = some (.map k vt) /\ B9 P vt = some (.pointer none)) (hk : P.underlying k = some .string)
  (hw : ∀ b o, e = (some b, o) -> w.heap[b]? = some o) (hp : I7 b S e) (hS : S t = none) : (Ar ρ (.lookup mt m x true) ty).run P w = .ok (.value (.tuple #[.pointer none, .bool false])) w := by
 obtain ⟨es, clk, rfl, h2⟩ := hp
 have hb := hw b _ rfl
 obtain ⟨r, h3, h4⟩ := h2 t
 rw [hS] at h4
 cases r with
 | some p => cases h4
 | none =>
  have hzv : (zeroValue vt).run P w = .ok (.pointer none) w := by
   have hz := hu.2
   unfold B9 at hz
   split at hz
   ·rename_i i hi
    simp [zeroValue, typeInfo, hi, hz]
   ·cases hz
  have e : Ar ρ (.lookup mt m x true) ty = (do pure (Next.value (<- Instr.lookup mt (ρ m) (ρ x) true))) := rfl
  rw [e, hm, hx]
  simp [Instr.lookup, run_underlying hu.1, MapKept.run_getObj_map hb, MapKept.run_checkKey hk (k := .string ⟨t.toArray⟩) trivial, MapKept.run_findKey hk h3, hzv, Result.andThen]
end
section
variable {P : Program} {n : Nat} {R : Array Oper} {PQ : List PanicEntry -> List Deferred -> World -> Prop} {Post : Fr -> World -> Prop} {zz fuel : Nat} {ll l' : List Bool} {zd : Bool} {Fs : Mem} {Lc Lz : Own} {w w0 : World} {F0 F : Mem} {L : Own} {f : Fr} {i : Nat} {dst : Option Nat} {ty : TypeId} {g : Option (Nat × Bool)}
theorem AG.pMake {t : TypeId} (hl : ll.set i true = l') (hzd : l'.toArray.getD zz true = zd) (ho : opq R i = some (dst, .makeMap t none, ty, g)) (hg : gd R f g = true) (hs : HS w0 F0 w F L) (hle : WI Fs F) (hL : ∀ p, p ∈ Lc -> p ∈ L) (hLz : zd = false -> ∀ p, p ∈ Lz -> p ∈ L)
  (kk : ∀ b e w', HS w0 F0 w' F (e :: L) -> I7 b (fun _ => none) e -> DWP P n R PQ Post zz (DZ Fs Lc Lz) fuel l' (Bl f dst (.map (some b))) w') : AG P n R PQ Post zz (DZ Fs Lc Lz) fuel ll i f w :=
 WW hl hzd ho hg HO (Ck (hs.alloc _) hle (fun p hp => List.mem_cons_of_mem _ (hL p hp)) (fun e p hp => List.mem_cons_of_mem _ (hLz e p hp))) (kk _ _ _ (hs.alloc _) (I7.nil _))
theorem AG.pIns {mt k vt : TypeId} {m x y : Operand} {b : Nat} {S : W4 -> Option Value} {k0 : W4} {v : Value} {e : Option Nat × Obj} (hl : ll.set i true = l') (hzd : l'.toArray.getD zz true = zd) (ho : opq R i = some (none, .insert mt m x y, ty, g)) (hg : gd R f g = true)
  (hm : fev f m = .map (some b)) (hx : fev f x = .string ⟨k0.toArray⟩) (hy : fev f y = v) (hu : P.underlying mt = some (.map k vt)) (hk : P.underlying k = some .string) (hn : S k0 = none)
  (hs : HS w0 F0 w F (e :: L)) (hp : I7 b S e) (hle : WI Fs F) (hL : ∀ p, p ∈ Lc -> p ∈ L) (hLz : zd = false -> ∀ p, p ∈ Lz -> p ∈ L)
  (kk : ∀ e' w', HS w0 F0 w' F (e' :: L) -> I7 b (FK S k0 v) e' -> DWP P n R PQ Post zz (DZ Fs Lc Lz) fuel l' f w') : AG P n R PQ Post zz (DZ Fs Lc Lz) fuel ll i f w := by
 obtain ⟨es, clk, rfl, h2⟩ := hp
 have hb := hs.ownAt (k := 0) rfl
 obtain ⟨r, h3, h4⟩ := h2 k0
 rw [hn] at h4
 have hr : r = none := by cases r with | none => rfl | some p => cases h4
 subst hr
 have hs' := hs.put (k := 0) rfl (.map (es.push ⟨.string ⟨k0.toArray⟩, v, clk⟩) (clk + 1))
 have hset : (setObj b (.map (es.push ⟨.string ⟨k0.toArray⟩, v, clk⟩) (clk + 1))).run P w = .ok () (Do w b (.map (es.push ⟨.string ⟨k0.toArray⟩, v, clk⟩) (clk + 1))) := by
  rw [MapKept.run_setObj_map _ hb]; rfl
 refine WX hl hzd ho hg (w' := Do w b (.map (es.push ⟨.string ⟨k0.toArray⟩, v, clk⟩) (clk + 1))) ?_ (Ck hs' hle (fun p hp => List.mem_cons_of_mem _ (hL p hp)) (fun e p hp => List.mem_cons_of_mem _ (hLz e p hp))) (kk _ _ hs' (I7.ins h2 k0 v hn))
 have e : Ar (fev f) (.insert mt m x y) ty = (do Instr.mapUpdate mt (fev f m) (fev f x) (fev f y); pure .skip) := rfl
 rw [e, hm, hx, hy]
 simp [Instr.mapUpdate, run_underlying hu, MapKept.run_getObj_map hb, MapKept.run_checkKey hk (k := .string ⟨k0.toArray⟩) trivial, MapKept.run_findKey hk h3, Result.andThen, hset]
abbrev W2 := @AG.pIns
end
def DX (b : Nat) : W4 -> Option Value := fun t => if t = [112, 111, 105, 110, 116, 115] then some (.pointer (some ⟨b, 0, none⟩)) else if t = [109, 117, 108, 116, 105, 112, 108, 105, 101, 114] then some (.pointer (some ⟨b, 1, none⟩)) else if t = [112, 101, 110, 97, 108, 116, 121] then some (.pointer (some ⟨b, 2, none⟩)) else none
section
variable {b : Nat} {t : W4}
theorem Sa (h : (t == ([112, 111, 105, 110, 116, 115] : W4)) = true) : DX b t = some (.pointer (some ⟨b, 0, none⟩)) := by
 have := eq_of_beq h; subst this; rfl
theorem R9 (_h0 : (t == ([112, 111, 105, 110, 116, 115] : W4)) = false) (h : (t == ([109, 117, 108, 116, 105, 112, 108, 105, 101, 114] : W4)) = true) : DX b t = some (.pointer (some ⟨b, 1, none⟩)) := by
 have := eq_of_beq h; subst this; rfl
theorem R8 (_h0 : (t == ([112, 111, 105, 110, 116, 115] : W4)) = false) (_h1 : (t == ([109, 117, 108, 116, 105, 112, 108, 105, 101, 114] : W4)) = false) (h : (t == ([112, 101, 110, 97, 108, 116, 121] : W4)) = true) : DX b t = some (.pointer (some ⟨b, 2, none⟩)) := by
 have := eq_of_beq h; subst this; rfl
theorem R7 (h0 : (t == ([112, 111, 105, 110, 116, 115] : W4)) = false) (h1 : (t == ([109, 117, 108, 116, 105, 112, 108, 105, 101, 114] : W4)) = false) (h2 : (t == ([112, 101, 110, 97, 108, 116, 121] : W4)) = false) : DX b t = none := by
 simp only [beq_eq_false_iff_ne] at h0 h1 h2
 unfold DX; rw [if_neg h0, if_neg h1, if_neg h2]
end
theorem Qn {wb w : World} {Fb F : Mem} {L : Own} {f : Fr} {bp : Nat} {Q : Exit -> Fr -> World -> Prop} (hs0 : HS wb Fb w F L) (h1 : f 1 = .pointer (some ⟨bp, 0, none⟩))
  (k : ∀ (f' : Fr) (w' : World) (e : Option Nat × Obj) (b : Nat), HS wb Fb w' F (e :: L) -> I7 b (DX bp) e -> f' 6 = .map (some b) -> (f'.d = f.d /\ f' 0 = f 0 /\ f' 4 = f 4) -> Q .normal f' w') : CWP Tryz.prog none 114 (cs1 (cs2 (cs2 (Db Tryz.f81)))) Q f w := by
 refine CWP.regionD (by kernel_rfl) (by kernel_rfl) (by kernel_rfl) (by kernel_rfl) (z := 15) (F := F) (Lc := []) (Lz := []) (l := [false, false, false, false, false, false, false, false, false, false, false, false, false, false, false]) (fuel := 15) (by kernel_rfl) (by kernel_rfl) hs0 (by simp) (by simp) (fun f' w' => ∃ e b, HS wb Fb w' F (e :: L) /\ I7 b (DX bp) e /\ f' 6 = .map (some b) /\ f'.d = f.d /\ f' 0 = f 0 /\ f' 4 = f 4) (fun wd hw => ?_) ?_
 ·refine WU (i := 1) (v := (.pointer (some ⟨bp, 0, none⟩))) (zd := true) (dst := (some 49)) (ty := 102) (g := none) (by kernel_rfl) (by kernel_rfl) (by kernel_rfl) (by kernel_rfl) (by kernel_rfl) rfl (fun wq hq => (A9 (x := .tmp 1) (v := (.pointer (some ⟨bp, 0, none⟩))) h1)) (l' := [false, true, false, false, false, false, false, false, false, false, false, false, false, false, false]) (by kernel_rfl) ?_
  refine WU (i := 2) (v := (.pointer (some ⟨bp, 0, none⟩))) (zd := true) (dst := (some 50)) (ty := 0) (g := none) (by kernel_rfl) (by kernel_rfl) (by kernel_rfl) (by kernel_rfl) (by kernel_rfl) rfl (fun wq hq => (EC (x := .tmp 49) (a := ⟨bp, 0, none⟩) rfl)) (l' := [false, true, true, false, false, false, false, false, false, false, false, false, false, false, false]) (by kernel_rfl) ?_
  refine WU (i := 3) (v := (.pointer (some ⟨bp, 0, none⟩))) (zd := true) (dst := (some 51)) (ty := 0) (g := none) (by kernel_rfl) (by kernel_rfl) (by kernel_rfl) (by kernel_rfl) (by kernel_rfl) rfl (fun wq hq => (CL (s := 26) (x := .tmp 50) (i := 0) (o := 0) (k := 1) (b := bp) (o0 := 0) rfl (by kernel_rfl) rfl (o1 := 0) rfl)) (l' := [false, true, true, true, false, false, false, false, false, false, false, false, false, false, false]) (by kernel_rfl) ?_
  refine WU (i := 5) (v := (.pointer (some ⟨bp, 0, none⟩))) (zd := true) (dst := (some 52)) (ty := 102) (g := none) (by kernel_rfl) (by kernel_rfl) (by kernel_rfl) (by kernel_rfl) (by kernel_rfl) rfl (fun wq hq => (A9 (x := .tmp 1) (v := (.pointer (some ⟨bp, 0, none⟩))) h1)) (l' := [false, true, true, true, false, true, false, false, false, false, false, false, false, false, false]) (by kernel_rfl) ?_
  refine WU (i := 6) (v := (.pointer (some ⟨bp, 0, none⟩))) (zd := true) (dst := (some 53)) (ty := 0) (g := none) (by kernel_rfl) (by kernel_rfl) (by kernel_rfl) (by kernel_rfl) (by kernel_rfl) rfl (fun wq hq => (EC (x := .tmp 52) (a := ⟨bp, 0, none⟩) rfl)) (l' := [false, true, true, true, false, true, true, false, false, false, false, false, false, false, false]) (by kernel_rfl) ?_
  refine WU (i := 7) (v := (.pointer (some ⟨bp, 1, none⟩))) (zd := true) (dst := (some 54)) (ty := 0) (g := none) (by kernel_rfl) (by kernel_rfl) (by kernel_rfl) (by kernel_rfl) (by kernel_rfl) rfl (fun wq hq => (CL (s := 26) (x := .tmp 53) (i := 1) (o := 1) (k := 1) (b := bp) (o0 := 0) rfl (by kernel_rfl) rfl (o1 := 1) rfl)) (l' := [false, true, true, true, false, true, true, true, false, false, false, false, false, false, false]) (by kernel_rfl) ?_
  refine WU (i := 9) (v := (.pointer (some ⟨bp, 0, none⟩))) (zd := true) (dst := (some 55)) (ty := 102) (g := none) (by kernel_rfl) (by kernel_rfl) (by kernel_rfl) (by kernel_rfl) (by kernel_rfl) rfl (fun wq hq => (A9 (x := .tmp 1) (v := (.pointer (some ⟨bp, 0, none⟩))) h1)) (l' := [false, true, true, true, false, true, true, true, false, true, false, false, false, false, false]) (by kernel_rfl) ?_
  refine WU (i := 10) (v := (.pointer (some ⟨bp, 0, none⟩))) (zd := true) (dst := (some 56)) (ty := 0) (g := none) (by kernel_rfl) (by kernel_rfl) (by kernel_rfl) (by kernel_rfl) (by kernel_rfl) rfl (fun wq hq => (EC (x := .tmp 55) (a := ⟨bp, 0, none⟩) rfl)) (l' := [false, true, true, true, false, true, true, true, false, true, true, false, false, false, false]) (by kernel_rfl) ?_
  refine WU (i := 11) (v := (.pointer (some ⟨bp, 2, none⟩))) (zd := true) (dst := (some 57)) (ty := 0) (g := none) (by kernel_rfl) (by kernel_rfl) (by kernel_rfl) (by kernel_rfl) (by kernel_rfl) rfl (fun wq hq => (CL (s := 26) (x := .tmp 56) (i := 2) (o := 2) (k := 1) (b := bp) (o0 := 0) rfl (by kernel_rfl) rfl (o1 := 2) rfl)) (l' := [false, true, true, true, false, true, true, true, false, true, true, true, false, false, false]) (by kernel_rfl) ?_
  refine WV (i := 0) (by kernel_rfl) ?_
  refine AG.pMake (l' := [true, true, true, true, false, true, true, true, false, true, true, true, false, false, false]) (zd := true) (by kernel_rfl) (by kernel_rfl) (dst := some 48) (ty := 167) (g := none) (by kernel_rfl) rfl (t := 167) hw (WJ _) (by simp) (fun e => by cases e) (fun b e0 w0 hs1 hp0 => ?_)
  refine DWP.three (i := 4) (j := 8) (k := 12) (by kernel_rfl) ?_ ?_ ?_
  ·
   refine W2 (l' := [true, true, true, true, true, true, true, true, false, true, true, true, false, false, false]) (zd := true) (by kernel_rfl) (by kernel_rfl) (ty := 0) (g := none) (by kernel_rfl) rfl (mt := 167) (k := 9) (vt := 166) (m := .tmp 48) (x := .const (.string ⟨([112, 111, 105, 110, 116, 115] : W4).toArray⟩)) (y := .tmp 51) (k0 := [112, 111, 105, 110, 116, 115]) (v := .pointer (some ⟨bp, 0, none⟩)) rfl rfl rfl (by kernel_rfl) (by kernel_rfl) (by simp [FK]) hs1 hp0 (WJ _) (by simp) (fun e => by cases e) (fun e11 w11 hs11 hp11 => ?_)
   refine DWP.two (i := 8) (j := 12) (by kernel_rfl) ?_ ?_
   ·
    refine W2 (l' := [true, true, true, true, true, true, true, true, true, true, true, true, false, false, false]) (zd := true) (by kernel_rfl) (by kernel_rfl) (ty := 0) (g := none) (by kernel_rfl) rfl (mt := 167) (k := 9) (vt := 166) (m := .tmp 48) (x := .const (.string ⟨([109, 117, 108, 116, 105, 112, 108, 105, 101, 114] : W4).toArray⟩)) (y := .tmp 54) (k0 := [109, 117, 108, 116, 105, 112, 108, 105, 101, 114]) (v := .pointer (some ⟨bp, 1, none⟩)) rfl rfl rfl (by kernel_rfl) (by kernel_rfl) (by simp [FK]) hs11 hp11 (WJ _) (by simp) (fun e => by cases e) (fun e12 w12 hs12 hp12 => ?_)
    refine WV (i := 12) (by kernel_rfl) ?_
    refine W2 (l' := [true, true, true, true, true, true, true, true, true, true, true, true, true, false, false]) (zd := true) (by kernel_rfl) (by kernel_rfl) (ty := 0) (g := none) (by kernel_rfl) rfl (mt := 167) (k := 9) (vt := 166) (m := .tmp 48) (x := .const (.string ⟨([112, 101, 110, 97, 108, 116, 121] : W4).toArray⟩)) (y := .tmp 57) (k0 := [112, 101, 110, 97, 108, 116, 121]) (v := .pointer (some ⟨bp, 2, none⟩)) rfl rfl rfl (by kernel_rfl) (by kernel_rfl) (by simp [FK]) hs12 hp12 (WJ _) (by simp) (fun e => by cases e) (fun e13 w13 hs13 hp13 => ?_)
    refine WV (i := 13) (by kernel_rfl) ?_
    refine WW (l' := [true, true, true, true, true, true, true, true, true, true, true, true, true, true, false]) (zd := true) (by kernel_rfl) (by kernel_rfl) (dst := some 58) (ty := 167) (g := none) (by kernel_rfl) rfl (A9 (x := .tmp 48) (v := .map (some b)) rfl) (Ck hs13 (WJ _) (by simp) (fun e => by cases e)) ?_
    refine WV (i := 14) (by kernel_rfl) ?_
    refine WW (l' := [true, true, true, true, true, true, true, true, true, true, true, true, true, true, true]) (zd := true) (by kernel_rfl) (by kernel_rfl) (dst := some 6) (ty := 167) (g := none) (by kernel_rfl) rfl (AK (x := .tmp 58) (v := .map (some b)) rfl) (Ck hs13 (WJ _) (by simp) (fun e => by cases e)) ?_
    exact WY (by kernel_rfl) ⟨_, b, hs13, hp13.congr (fun k => by by_cases a : k = [112, 111, 105, 110, 116, 115] <;> by_cases b : k = [109, 117, 108, 116, 105, 112, 108, 105, 101, 114] <;> by_cases c : k = [112, 101, 110, 97, 108, 116, 121] <;> simp_all [FK, DX]), rfl, rfl, rfl, rfl⟩
   ·
    refine W2 (l' := [true, true, true, true, true, true, true, true, false, true, true, true, true, false, false]) (zd := true) (by kernel_rfl) (by kernel_rfl) (ty := 0) (g := none) (by kernel_rfl) rfl (mt := 167) (k := 9) (vt := 166) (m := .tmp 48) (x := .const (.string ⟨([112, 101, 110, 97, 108, 116, 121] : W4).toArray⟩)) (y := .tmp 57) (k0 := [112, 101, 110, 97, 108, 116, 121]) (v := .pointer (some ⟨bp, 2, none⟩)) rfl rfl rfl (by kernel_rfl) (by kernel_rfl) (by simp [FK]) hs11 hp11 (WJ _) (by simp) (fun e => by cases e) (fun e14 w14 hs14 hp14 => ?_)
    refine WV (i := 8) (by kernel_rfl) ?_
    refine W2 (l' := [true, true, true, true, true, true, true, true, true, true, true, true, true, false, false]) (zd := true) (by kernel_rfl) (by kernel_rfl) (ty := 0) (g := none) (by kernel_rfl) rfl (mt := 167) (k := 9) (vt := 166) (m := .tmp 48) (x := .const (.string ⟨([109, 117, 108, 116, 105, 112, 108, 105, 101, 114] : W4).toArray⟩)) (y := .tmp 54) (k0 := [109, 117, 108, 116, 105, 112, 108, 105, 101, 114]) (v := .pointer (some ⟨bp, 1, none⟩)) rfl rfl rfl (by kernel_rfl) (by kernel_rfl) (by simp [FK]) hs14 hp14 (WJ _) (by simp) (fun e => by cases e) (fun e15 w15 hs15 hp15 => ?_)
    refine WV (i := 13) (by kernel_rfl) ?_
    refine WW (l' := [true, true, true, true, true, true, true, true, true, true, true, true, true, true, false]) (zd := true) (by kernel_rfl) (by kernel_rfl) (dst := some 58) (ty := 167) (g := none) (by kernel_rfl) rfl (A9 (x := .tmp 48) (v := .map (some b)) rfl) (Ck hs15 (WJ _) (by simp) (fun e => by cases e)) ?_
    refine WV (i := 14) (by kernel_rfl) ?_
    refine WW (l' := [true, true, true, true, true, true, true, true, true, true, true, true, true, true, true]) (zd := true) (by kernel_rfl) (by kernel_rfl) (dst := some 6) (ty := 167) (g := none) (by kernel_rfl) rfl (AK (x := .tmp 58) (v := .map (some b)) rfl) (Ck hs15 (WJ _) (by simp) (fun e => by cases e)) ?_
    exact WY (by kernel_rfl) ⟨_, b, hs15, hp15.congr (fun k => by by_cases a : k = [112, 111, 105, 110, 116, 115] <;> by_cases b : k = [109, 117, 108, 116, 105, 112, 108, 105, 101, 114] <;> by_cases c : k = [112, 101, 110, 97, 108, 116, 121] <;> simp_all [FK, DX]), rfl, rfl, rfl, rfl⟩
  ·
   refine W2 (l' := [true, true, true, true, false, true, true, true, true, true, true, true, false, false, false]) (zd := true) (by kernel_rfl) (by kernel_rfl) (ty := 0) (g := none) (by kernel_rfl) rfl (mt := 167) (k := 9) (vt := 166) (m := .tmp 48) (x := .const (.string ⟨([109, 117, 108, 116, 105, 112, 108, 105, 101, 114] : W4).toArray⟩)) (y := .tmp 54) (k0 := [109, 117, 108, 116, 105, 112, 108, 105, 101, 114]) (v := .pointer (some ⟨bp, 1, none⟩)) rfl rfl rfl (by kernel_rfl) (by kernel_rfl) (by simp [FK]) hs1 hp0 (WJ _) (by simp) (fun e => by cases e) (fun e16 w16 hs16 hp16 => ?_)
   refine DWP.two (i := 4) (j := 12) (by kernel_rfl) ?_ ?_
   ·
    refine W2 (l' := [true, true, true, true, true, true, true, true, true, true, true, true, false, false, false]) (zd := true) (by kernel_rfl) (by kernel_rfl) (ty := 0) (g := none) (by kernel_rfl) rfl (mt := 167) (k := 9) (vt := 166) (m := .tmp 48) (x := .const (.string ⟨([112, 111, 105, 110, 116, 115] : W4).toArray⟩)) (y := .tmp 51) (k0 := [112, 111, 105, 110, 116, 115]) (v := .pointer (some ⟨bp, 0, none⟩)) rfl rfl rfl (by kernel_rfl) (by kernel_rfl) (by simp [FK]) hs16 hp16 (WJ _) (by simp) (fun e => by cases e) (fun e17 w17 hs17 hp17 => ?_)
    refine WV (i := 12) (by kernel_rfl) ?_
    refine W2 (l' := [true, true, true, true, true, true, true, true, true, true, true, true, true, false, false]) (zd := true) (by kernel_rfl) (by kernel_rfl) (ty := 0) (g := none) (by kernel_rfl) rfl (mt := 167) (k := 9) (vt := 166) (m := .tmp 48) (x := .const (.string ⟨([112, 101, 110, 97, 108, 116, 121] : W4).toArray⟩)) (y := .tmp 57) (k0 := [112, 101, 110, 97, 108, 116, 121]) (v := .pointer (some ⟨bp, 2, none⟩)) rfl rfl rfl (by kernel_rfl) (by kernel_rfl) (by simp [FK]) hs17 hp17 (WJ _) (by simp) (fun e => by cases e) (fun e18 w18 hs18 hp18 => ?_)
    refine WV (i := 13) (by kernel_rfl) ?_
    refine WW (l' := [true, true, true, true, true, true, true, true, true, true, true, true, true, true, false]) (zd := true) (by kernel_rfl) (by kernel_rfl) (dst := some 58) (ty := 167) (g := none) (by kernel_rfl) rfl (A9 (x := .tmp 48) (v := .map (some b)) rfl) (Ck hs18 (WJ _) (by simp) (fun e => by cases e)) ?_
    refine WV (i := 14) (by kernel_rfl) ?_
    refine WW (l' := [true, true, true, true, true, true, true, true, true, true, true, true, true, true, true]) (zd := true) (by kernel_rfl) (by kernel_rfl) (dst := some 6) (ty := 167) (g := none) (by kernel_rfl) rfl (AK (x := .tmp 58) (v := .map (some b)) rfl) (Ck hs18 (WJ _) (by simp) (fun e => by cases e)) ?_
    exact WY (by kernel_rfl) ⟨_, b, hs18, hp18.congr (fun k => by by_cases a : k = [112, 111, 105, 110, 116, 115] <;> by_cases b : k = [109, 117, 108, 116, 105, 112, 108, 105, 101, 114] <;> by_cases c : k = [112, 101, 110, 97, 108, 116, 121] <;> simp_all [FK, DX]), rfl, rfl, rfl, rfl⟩
   ·
    refine W2 (l' := [true, true, true, true, false, true, true, true, true, true, true, true, true, false, false]) (zd := true) (by kernel_rfl) (by kernel_rfl) (ty := 0) (g := none) (by kernel_rfl) rfl (mt := 167) (k := 9) (vt := 166) (m := .tmp 48) (x := .const (.string ⟨([112, 101, 110, 97, 108, 116, 121] : W4).toArray⟩)) (y := .tmp 57) (k0 := [112, 101, 110, 97, 108, 116, 121]) (v := .pointer (some ⟨bp, 2, none⟩)) rfl rfl rfl (by kernel_rfl) (by kernel_rfl) (by simp [FK]) hs16 hp16 (WJ _) (by simp) (fun e => by cases e) (fun e19 w19 hs19 hp19 => ?_)
    refine WV (i := 4) (by kernel_rfl) ?_
    refine W2 (l' := [true, true, true, true, true, true, true, true, true, true, true, true, true, false, false]) (zd := true) (by kernel_rfl) (by kernel_rfl) (ty := 0) (g := none) (by kernel_rfl) rfl (mt := 167) (k := 9) (vt := 166) (m := .tmp 48) (x := .const (.string ⟨([112, 111, 105, 110, 116, 115] : W4).toArray⟩)) (y := .tmp 51) (k0 := [112, 111, 105, 110, 116, 115]) (v := .pointer (some ⟨bp, 0, none⟩)) rfl rfl rfl (by kernel_rfl) (by kernel_rfl) (by simp [FK]) hs19 hp19 (WJ _) (by simp) (fun e => by cases e) (fun e20 w20 hs20 hp20 => ?_)
    refine WV (i := 13) (by kernel_rfl) ?_
    refine WW (l' := [true, true, true, true, true, true, true, true, true, true, true, true, true, true, false]) (zd := true) (by kernel_rfl) (by kernel_rfl) (dst := some 58) (ty := 167) (g := none) (by kernel_rfl) rfl (A9 (x := .tmp 48) (v := .map (some b)) rfl) (Ck hs20 (WJ _) (by simp) (fun e => by cases e)) ?_
    refine WV (i := 14) (by kernel_rfl) ?_
    refine WW (l' := [true, true, true, true, true, true, true, true, true, true, true, true, true, true, true]) (zd := true) (by kernel_rfl) (by kernel_rfl) (dst := some 6) (ty := 167) (g := none) (by kernel_rfl) rfl (AK (x := .tmp 58) (v := .map (some b)) rfl) (Ck hs20 (WJ _) (by simp) (fun e => by cases e)) ?_
    exact WY (by kernel_rfl) ⟨_, b, hs20, hp20.congr (fun k => by by_cases a : k = [112, 111, 105, 110, 116, 115] <;> by_cases b : k = [109, 117, 108, 116, 105, 112, 108, 105, 101, 114] <;> by_cases c : k = [112, 101, 110, 97, 108, 116, 121] <;> simp_all [FK, DX]), rfl, rfl, rfl, rfl⟩
  ·
   refine W2 (l' := [true, true, true, true, false, true, true, true, false, true, true, true, true, false, false]) (zd := true) (by kernel_rfl) (by kernel_rfl) (ty := 0) (g := none) (by kernel_rfl) rfl (mt := 167) (k := 9) (vt := 166) (m := .tmp 48) (x := .const (.string ⟨([112, 101, 110, 97, 108, 116, 121] : W4).toArray⟩)) (y := .tmp 57) (k0 := [112, 101, 110, 97, 108, 116, 121]) (v := .pointer (some ⟨bp, 2, none⟩)) rfl rfl rfl (by kernel_rfl) (by kernel_rfl) (by simp [FK]) hs1 hp0 (WJ _) (by simp) (fun e => by cases e) (fun e21 w21 hs21 hp21 => ?_)
   refine DWP.two (i := 4) (j := 8) (by kernel_rfl) ?_ ?_
   ·
    refine W2 (l' := [true, true, true, true, true, true, true, true, false, true, true, true, true, false, false]) (zd := true) (by kernel_rfl) (by kernel_rfl) (ty := 0) (g := none) (by kernel_rfl) rfl (mt := 167) (k := 9) (vt := 166) (m := .tmp 48) (x := .const (.string ⟨([112, 111, 105, 110, 116, 115] : W4).toArray⟩)) (y := .tmp 51) (k0 := [112, 111, 105, 110, 116, 115]) (v := .pointer (some ⟨bp, 0, none⟩)) rfl rfl rfl (by kernel_rfl) (by kernel_rfl) (by simp [FK]) hs21 hp21 (WJ _) (by simp) (fun e => by cases e) (fun e22 w22 hs22 hp22 => ?_)
    refine WV (i := 8) (by kernel_rfl) ?_
    refine W2 (l' := [true, true, true, true, true, true, true, true, true, true, true, true, true, false, false]) (zd := true) (by kernel_rfl) (by kernel_rfl) (ty := 0) (g := none) (by kernel_rfl) rfl (mt := 167) (k := 9) (vt := 166) (m := .tmp 48) (x := .const (.string ⟨([109, 117, 108, 116, 105, 112, 108, 105, 101, 114] : W4).toArray⟩)) (y := .tmp 54) (k0 := [109, 117, 108, 116, 105, 112, 108, 105, 101, 114]) (v := .pointer (some ⟨bp, 1, none⟩)) rfl rfl rfl (by kernel_rfl) (by kernel_rfl) (by simp [FK]) hs22 hp22 (WJ _) (by simp) (fun e => by cases e) (fun e23 w23 hs23 hp23 => ?_)
    refine WV (i := 13) (by kernel_rfl) ?_
    refine WW (l' := [true, true, true, true, true, true, true, true, true, true, true, true, true, true, false]) (zd := true) (by kernel_rfl) (by kernel_rfl) (dst := some 58) (ty := 167) (g := none) (by kernel_rfl) rfl (A9 (x := .tmp 48) (v := .map (some b)) rfl) (Ck hs23 (WJ _) (by simp) (fun e => by cases e)) ?_
    refine WV (i := 14) (by kernel_rfl) ?_
    refine WW (l' := [true, true, true, true, true, true, true, true, true, true, true, true, true, true, true]) (zd := true) (by kernel_rfl) (by kernel_rfl) (dst := some 6) (ty := 167) (g := none) (by kernel_rfl) rfl (AK (x := .tmp 58) (v := .map (some b)) rfl) (Ck hs23 (WJ _) (by simp) (fun e => by cases e)) ?_
    exact WY (by kernel_rfl) ⟨_, b, hs23, hp23.congr (fun k => by by_cases a : k = [112, 111, 105, 110, 116, 115] <;> by_cases b : k = [109, 117, 108, 116, 105, 112, 108, 105, 101, 114] <;> by_cases c : k = [112, 101, 110, 97, 108, 116, 121] <;> simp_all [FK, DX]), rfl, rfl, rfl, rfl⟩
   ·
    refine W2 (l' := [true, true, true, true, false, true, true, true, true, true, true, true, true, false, false]) (zd := true) (by kernel_rfl) (by kernel_rfl) (ty := 0) (g := none) (by kernel_rfl) rfl (mt := 167) (k := 9) (vt := 166) (m := .tmp 48) (x := .const (.string ⟨([109, 117, 108, 116, 105, 112, 108, 105, 101, 114] : W4).toArray⟩)) (y := .tmp 54) (k0 := [109, 117, 108, 116, 105, 112, 108, 105, 101, 114]) (v := .pointer (some ⟨bp, 1, none⟩)) rfl rfl rfl (by kernel_rfl) (by kernel_rfl) (by simp [FK]) hs21 hp21 (WJ _) (by simp) (fun e => by cases e) (fun e24 w24 hs24 hp24 => ?_)
    refine WV (i := 4) (by kernel_rfl) ?_
    refine W2 (l' := [true, true, true, true, true, true, true, true, true, true, true, true, true, false, false]) (zd := true) (by kernel_rfl) (by kernel_rfl) (ty := 0) (g := none) (by kernel_rfl) rfl (mt := 167) (k := 9) (vt := 166) (m := .tmp 48) (x := .const (.string ⟨([112, 111, 105, 110, 116, 115] : W4).toArray⟩)) (y := .tmp 51) (k0 := [112, 111, 105, 110, 116, 115]) (v := .pointer (some ⟨bp, 0, none⟩)) rfl rfl rfl (by kernel_rfl) (by kernel_rfl) (by simp [FK]) hs24 hp24 (WJ _) (by simp) (fun e => by cases e) (fun e25 w25 hs25 hp25 => ?_)
    refine WV (i := 13) (by kernel_rfl) ?_
    refine WW (l' := [true, true, true, true, true, true, true, true, true, true, true, true, true, true, false]) (zd := true) (by kernel_rfl) (by kernel_rfl) (dst := some 58) (ty := 167) (g := none) (by kernel_rfl) rfl (A9 (x := .tmp 48) (v := .map (some b)) rfl) (Ck hs25 (WJ _) (by simp) (fun e => by cases e)) ?_
    refine WV (i := 14) (by kernel_rfl) ?_
    refine WW (l' := [true, true, true, true, true, true, true, true, true, true, true, true, true, true, true]) (zd := true) (by kernel_rfl) (by kernel_rfl) (dst := some 6) (ty := 167) (g := none) (by kernel_rfl) rfl (AK (x := .tmp 58) (v := .map (some b)) rfl) (Ck hs25 (WJ _) (by simp) (fun e => by cases e)) ?_
    exact WY (by kernel_rfl) ⟨_, b, hs25, hp25.congr (fun k => by by_cases a : k = [112, 111, 105, 110, 116, 115] <;> by_cases b : k = [109, 117, 108, 116, 105, 112, 108, 105, 101, 114] <;> by_cases c : k = [112, 101, 110, 97, 108, 116, 121] <;> simp_all [FK, DX]), rfl, rfl, rfl, rfl⟩
 ·rintro f' w' ⟨e, b, h1, h2, h3, h4, h5⟩
  exact k f' w' e b h1 h2 h3 ⟨h4, h5⟩
def A0 (N : Nat) (x0 : Ab) (x1 : AM) : Option (Ag ⊕ (Ab × AM)) :=
 ((idx x0.l_ 0).bind fun x21 => ((Ap N x0 ([114, 101, 112, 101, 97, 116] : W4)).bind fun r41 => (bif r41.2 then ((Ax N r41.1 ([58] : W4)).bind fun r51 => sk r51 (fun b242 => some (.inl b242)) (fun r54 => ((AD N r54).bind fun r61 => sk r61 (fun b235 => some (.inl b235)) (fun r64 => ((Bz N r64.1).bind fun r77 => sk r77 (fun b228 => some (.inl b228)) (fun r80 => (((Ce N r64.1 x1.Repeats x21.at_).bind fun r100 => sk r100 (fun b110 => some (.inl b110)) (fun r103 => some (.inr ()))).bind fun j92 => sk j92 (fun b222 => some (.inl b222)) (fun J99 => ((AE N r64.1 r64.2 1).bind fun r118 => sk r118 (fun b215 => some (.inl b215)) (fun r121 => (((Dc x1.Repeats [({ Op := 0, Value := 0, Kids := ([] : List Expr) } : Expr)]).bind fun r142 => ((idx r142 (x1.Repeats.length : Int)).bind fun x151 => some (r142.set ((x1.Repeats.length : Int) : Int).toNat r64.2.Expr))).bind fun j133 => some (.inr (r64.1, ({ Points := x1.Points, Multipliers := x1.Multipliers, Penalties := x1.Penalties, Repeats := j133 } : AM)))))))))))))) else (bif (x21.text_ == ([112, 111, 105, 110, 116, 115] : W4)) then ((Ap N r41.1 x21.text_).bind fun r264 => (bif (!r264.2) then ((AV N r264.1 60 x21.at_).bind fun r274 => sk r274 (fun b279 => some (.inl b279)) (fun r277 => none)) else ((Ax N r264.1 ([58] : W4)).bind fun r286 => sk r286 (fun b489 => some (.inl b489)) (fun r289 => ((AD N r289).bind fun r296 => sk r296 (fun b482 => some (.inl b482)) (fun r299 => ((Ax N r299.1 ([61, 62] : W4)).bind fun r319 => sk r319 (fun b475 => some (.inl b475)) (fun r322 => ((AD N r322).bind fun r329 => sk r329 (fun b468 => some (.inl b468)) (fun r332 => ((Bz N r332.1).bind fun r354 => sk r354 (fun b461 => some (.inl b461)) (fun r357 => (((Bp N r332.1 x1.Points x21.at_).bind fun r378 => sk r378 (fun b388 => some (.inl b388)) (fun r381 => some (.inr ()))).bind fun j369 => sk j369 (fun b455 => some (.inl b455)) (fun J377 => ((AE N r332.1 r299.2 2).bind fun r396 => sk r396 (fun b448 => some (.inl b448)) (fun r399 => ((AE N r332.1 r332.2 1).bind fun r406 => sk r406 (fun b441 => some (.inl b441)) (fun r409 => (((Dc x1.Points [({ When := r299.2.Expr, Then := r332.2.Expr } : Clause)]).bind fun r430 => some r430).bind fun j421 => some (.inr (r332.1, ({ Points := j421, Multipliers := x1.Multipliers, Penalties := x1.Penalties, Repeats := x1.Repeats } : AM)))))))))))))))))))))) else (bif (x21.text_ == ([109, 117, 108, 116, 105, 112, 108, 105, 101, 114] : W4)) then ((Ap N r41.1 x21.text_).bind fun r500 => (bif (!r500.2) then ((AV N r500.1 60 x21.at_).bind fun r510 => sk r510 (fun b515 => some (.inl b515)) (fun r513 => none)) else ((Ax N r500.1 ([58] : W4)).bind fun r522 => sk r522 (fun b725 => some (.inl b725)) (fun r525 => ((AD N r525).bind fun r532 => sk r532 (fun b718 => some (.inl b718)) (fun r535 => ((Ax N r535.1 ([61, 62] : W4)).bind fun r555 => sk r555 (fun b711 => some (.inl b711)) (fun r558 => ((AD N r558).bind fun r565 => sk r565 (fun b704 => some (.inl b704)) (fun r568 => ((Bz N r568.1).bind fun r590 => sk r590 (fun b697 => some (.inl b697)) (fun r593 => (((Bp N r568.1 x1.Multipliers x21.at_).bind fun r614 => sk r614 (fun b624 => some (.inl b624)) (fun r617 => some (.inr ()))).bind fun j605 => sk j605 (fun b691 => some (.inl b691)) (fun J613 => ((AE N r568.1 r535.2 2).bind fun r632 => sk r632 (fun b684 => some (.inl b684)) (fun r635 => ((AE N r568.1 r568.2 1).bind fun r642 => sk r642 (fun b677 => some (.inl b677)) (fun r645 => (((Dc x1.Multipliers [({ When := r535.2.Expr, Then := r568.2.Expr } : Clause)]).bind fun r666 => some r666).bind fun j657 => some (.inr (r568.1, ({ Points := x1.Points, Multipliers := j657, Penalties := x1.Penalties, Repeats := x1.Repeats } : AM)))))))))))))))))))))) else (bif (x21.text_ == ([112, 101, 110, 97, 108, 116, 121] : W4)) then ((Ap N r41.1 x21.text_).bind fun r736 => (bif (!r736.2) then ((AV N r736.1 60 x21.at_).bind fun r746 => sk r746 (fun b751 => some (.inl b751)) (fun r749 => none)) else ((Ax N r736.1 ([58] : W4)).bind fun r758 => sk r758 (fun b961 => some (.inl b961)) (fun r761 => ((AD N r761).bind fun r768 => sk r768 (fun b954 => some (.inl b954)) (fun r771 => ((Ax N r771.1 ([61, 62] : W4)).bind fun r791 => sk r791 (fun b947 => some (.inl b947)) (fun r794 => ((AD N r794).bind fun r801 => sk r801 (fun b940 => some (.inl b940)) (fun r804 => ((Bz N r804.1).bind fun r826 => sk r826 (fun b933 => some (.inl b933)) (fun r829 => (((Bp N r804.1 x1.Penalties x21.at_).bind fun r850 => sk r850 (fun b860 => some (.inl b860)) (fun r853 => some (.inr ()))).bind fun j841 => sk j841 (fun b927 => some (.inl b927)) (fun J849 => ((AE N r804.1 r771.2 2).bind fun r868 => sk r868 (fun b920 => some (.inl b920)) (fun r871 => ((AE N r804.1 r804.2 1).bind fun r878 => sk r878 (fun b913 => some (.inl b913)) (fun r881 => (((Dc x1.Penalties [({ When := r771.2.Expr, Then := r804.2.Expr } : Clause)]).bind fun r902 => some r902).bind fun j893 => some (.inr (r804.1, ({ Points := x1.Points, Multipliers := x1.Multipliers, Penalties := j893, Repeats := x1.Repeats } : AM)))))))))))))))))))))) else ((AV N r41.1 60 x21.at_).bind fun r969 => sk r969 (fun b974 => some (.inl b974)) (fun r972 => none))))))))
theorem Ij : As Tryz.prog 81 := fun _ _ => by kernel_rfl
theorem I1 (N : Nat) {wb w0 : World} {Fb F0 : Mem} {Lf : Own} (hG : DD F0) (bp0 : Nat) (x0 : Ab) (a0_0 : W5) (n0_0 : Nat) (hb0_0 : LC x0.l_.length n0_0) (hs0_0 : SlA Ai F0 a0_0 x0.l_) (bp1 : Nat) (x1 : AM) (a1_0 : W5) (n1_0 : Nat) (e1_0 : Option Nat × Obj) (a1_1 : W5) (n1_1 : Nat) (e1_1 : Option Nat × Obj) (a1_2 : W5) (n1_2 : Nat) (e1_2 : Option Nat × Obj) (a1_3 : W5) (n1_3 : Nat) (e1_3 : Option Nat × Obj) (hr1_0 : AC Av 56 F0 a1_0 n1_0 x1.Points e1_0) (hr1_1 : AC Av 56 F0 a1_1 n1_1 x1.Multipliers e1_1) (hr1_2 : AC Av 56 F0 a1_2 n1_2 x1.Penalties e1_2) (hr1_3 : AC Au 33 F0 a1_3 n1_3 x1.Repeats e1_3) (hs0 : HS wb Fb w0 F0 ((sb bp0 (Af x0 a0_0 n0_0) 100) :: (sb bp1 (AP x1 a1_0 n1_0 a1_1 n1_1 a1_2 n1_2 a1_3 n1_3) 26) :: e1_0 :: e1_1 :: e1_2 :: e1_3 :: Lf)) (r : (Ag ⊕ (Ab × AM))) (h : A0 N x0 x1 = some r) :
  Calls Tryz.prog 81 ([(pt bp0 0), (pt bp1 0)] : List Value).toArray w0 (Ct wb Fb F0 Lf r (fun b => (.iface 158 (.agg (A2 b)))) fun a F' v L' => ∃ (aq0_0 : W5) (nq0_0 : Nat) (aq1_0 : W5) (nq1_0 : Nat) (eq1_0 : Option Nat × Obj) (aq1_1 : W5) (nq1_1 : Nat) (eq1_1 : Option Nat × Obj) (aq1_2 : W5) (nq1_2 : Nat) (eq1_2 : Option Nat × Obj) (aq1_3 : W5) (nq1_3 : Nat) (eq1_3 : Option Nat × Obj), v = (.tuple #[]) /\ L' = (sb bp0 (Af a.1 aq0_0 nq0_0) 100) :: (sb bp1 (AP a.2 aq1_0 nq1_0 aq1_1 nq1_1 aq1_2 nq1_2 aq1_3 nq1_3) 26) :: eq1_0 :: eq1_1 :: eq1_2 :: eq1_3 :: Lf /\ LC a.1.l_.length nq0_0 /\ SlA Ai F' aq0_0 a.1.l_ /\ AC Av 56 F' aq1_0 nq1_0 a.2.Points eq1_0 /\ AC Av 56 F' aq1_1 nq1_1 a.2.Multipliers eq1_1 /\ AC Av 56 F' aq1_2 nq1_2 a.2.Penalties eq1_2 /\ AC Au 33 F' aq1_3 nq1_3 a.2.Repeats eq1_3) := by
 refine Go 114 Tryz.func81 ?_
 refine Sq (Rg [0, 1, 2, 3, 4, 5, 6, 7] ?_)
 refine Vs 3 ?_
 refine Ld hs0.at0 ?_
 obtain ⟨x21, hx22, h24⟩ := bind_some h
 obtain ⟨hi23, hx22'⟩ := Ay hx22
 obtain ⟨b25, o26, C27, E28, fz29, rfl, hF31, hE32⟩ := WT hs0_0 hx22'
 have hc34 := hE32 _ _ hx22'
 refine Ix hi23 ?_
 refine Lx 0 (hs0.pers _ _ hF31) hc34 ?_
 refine Al' 97 #[(vi 0), (vi 0), (.string ⟨(([] : W4)).toArray⟩)] hs0 (fun b35 w36 hs37 => ?_)
 refine St0 (A7 x21) hs37 (fun w38 hs39 => ?_)
 refine Nss ?_
 refine Sq (Rg [0, 1] ?_)
 refine Vs 1 ?_
 have hs40 := hs39.pk6.pk6.pk6.pk6.pk6.pk5
 obtain ⟨r41, hr42, h43⟩ := bind_some h24
 refine CB AO (AU N bp0 x0 (some ⟨b25, o26, none⟩) n0_0 hb0_0 hs0_0 (([114, 101, 112, 101, 97, 116] : W4)) hs40.pk6 _ hr42) ?_
 rintro _ F1 w44 _ hs45 le46 ⟨ar41_0_0, nr41_0_0, rfl, rfl, hbr41_0_0, hsr41_0_0⟩
 refine Nt ?_
 refine Cd h43 (fun hb48 h49 => ?_) (fun hb48 h50 => ?_)
 ·refine Sq (Rg [0, 1] ?_)
  refine Vs 1 ?_
  obtain ⟨r51, hr52, h53⟩ := bind_some h49
  refine CP A3 (A4 N bp0 r41.1 ar41_0_0 nr41_0_0 hbr41_0_0 hsr41_0_0 (([58] : W4)) hs45 _ hr52) ?_ ?_
  ·rintro r54 _ F2 w56 _ rfl hs57 le58 ⟨ar54_0_0, nr54_0_0, rfl, rfl, hbr54_0_0, hsr54_0_0⟩
   have h60 := BQ h53
   refine Nss (Rg [0, 1, 2, 3] ?_)
   refine Vs 1 ?_
   obtain ⟨r61, hr62, h63⟩ := bind_some h60
   refine CP Bm (Br N (hG.mono (le46.trans le58)) bp0 r54 ar54_0_0 nr54_0_0 hbr54_0_0 hsr54_0_0 hs57 _ hr62) ?_ ?_
   ·rintro r64 _ F3 w66 _ rfl hs67 le68 ⟨ar64_0_0, nr64_0_0, ar64_1_2, nr64_1_2, rfl, rfl, hbr64_0_0, hsr64_0_0, hbr64_1_2, hsr64_1_2⟩
    have h70 := BQ h63
    refine Al' 113 #[(vi 0), (vi 0), (.slice none ([] : List Expr).length 0), (vi 0)] hs67 (fun b71 w72 hs73 => ?_)
    refine St0 (Am r64.2 ar64_1_2 nr64_1_2) hs73 (fun w74 hs75 => ?_)
    refine Nss (Rg [0, 1] ?_)
    refine Vs 1 ?_
    have hs76 := hs75.pk7.pk7.pk7.pk7.pk7.pk7
    obtain ⟨r77, hr78, h79⟩ := bind_some h70
    refine CP CU (C6 N bp0 r64.1 ar64_0_0 nr64_0_0 hbr64_0_0 hsr64_0_0 hs76.pk6.pk7 _ hr78) ?_ ?_
    ·rintro r80 _ F4 w82 _ rfl hs83 le84 ⟨rfl, rfl⟩
     have h86 := BQ h79
     refine Nss ?_
     obtain ⟨j92, hj97, h98⟩ := bind_some h86
     refine RDP 8 8 [(sb bp0 (Af r64.1 ar64_0_0 nr64_0_0) 100), (sb b71 (Am r64.2 ar64_1_2 nr64_1_2) 113), (sb b35 (A7 x21) 97), (sb bp1 (AP x1 a1_0 n1_0 a1_1 n1_1 a1_2 n1_2 a1_3 n1_3) 26), e1_0, e1_1, e1_2, e1_3] [] hs83 (fun c d w => d = [] /\ ∃ (b : Ag) (Fp : Mem), j92 = .inl b /\ c = [{ v := (.iface 158 (.agg (A2 b))), recovered := false }] /\ HS wb Fb w Fp Lf /\ WI F4 Fp) (fun f w => ∃ (J99 : Unit), j92 = .inr J99 /\ ∃ (F5 : Mem), HS wb Fb w F5 ((sb bp0 (Af r64.1 ar64_0_0 nr64_0_0) 100) :: (sb b71 (Am r64.2 ar64_1_2 nr64_1_2) 113) :: (sb bp1 (AP x1 a1_0 n1_0 a1_1 n1_1 a1_2 n1_2 a1_3 n1_3) 26) :: e1_0 :: e1_1 :: e1_2 :: e1_3 :: Lf) /\ WI F4 F5 /\ FI f [] [(0, (pt bp0 0)), (1, (pt bp1 0)), (5, (pt b71 0))]) (fun wd87 hw88 => ?_) ?_ ?_
     ·refine Dv [0, 1, 2, 3] ?_
      refine Dl 4 (fun _ hq => (hq.1.2 3 _ _ rfl)) ?_
      refine Dv [5] ?_
      refine Dl 6 (fun _ hq => (hq.1.2 2 _ _ rfl)) ?_
      refine D1 7 ?_
      obtain ⟨r100, hr101, h102⟩ := bind_some hj97
      refine DCP Hw (HK N bp0 r64.1 ar64_0_0 nr64_0_0 hbr64_0_0 (WL hsr64_0_0 le84) x1.Repeats a1_3 n1_3 x21.at_ hw88 _ hr101) ?_ ?_
      ·rintro r103 _ F6 w105 _ rfl hs106 le107 ⟨rfl, rfl⟩
       have h109 := BQ h102
       refine ⟨Ck hs106 le107 (by simp) (zdT (by kernel_rfl)), ?_⟩
       obtain rfl := Ac h109
       exact WY (by kernel_rfl) ⟨_, rfl, F6, hs106.dr2, le107, fI⟩
      ·rintro b110 F7 w111 rfl hs112 le113
       have h114 := Bw h102
       obtain rfl := Ac h114
       have hs116 := hs112.dr0.dr0.dr0.dr0.dr0
       exact ⟨rfl, _, _, rfl, rfl, hs116.dr0.dr0, le113⟩
     ·rintro f w89 ⟨J99, rfl, F5, hs90, le91, ⟨_, rfl⟩⟩
      have h117 := BQ h98
      refine Ad ?_
      refine Sq (Rg [0, 1, 2] ?_)
      refine Vs 1 ?_
      refine Ld hs90.at1 ?_
      obtain ⟨r118, hr119, h120⟩ := bind_some h117
      refine CP Bq (Bx N bp0 r64.1 ar64_0_0 nr64_0_0 hbr64_0_0 (WL hsr64_0_0 (le84.trans le91)) r64.2 ar64_1_2 nr64_1_2 hbr64_1_2 (WL hsr64_1_2 (le84.trans le91)) 1 hs90 _ hr119) ?_ ?_
      ·rintro r121 _ F8 w123 _ rfl hs124 le125 ⟨rfl, rfl⟩
       have h127 := BQ h120
       refine Nss ?_
       obtain ⟨j133, hj135, h136⟩ := bind_some h127
       refine RD 14 14 [(sb bp0 (Af r64.1 ar64_0_0 nr64_0_0) 100), (sb b71 (Am r64.2 ar64_1_2 nr64_1_2) 113), e1_0, e1_1, e1_2] [] hs124 (fun f w => ∃ (F9 : Mem) (aj133_0 : W5) (nj133_0 : Nat) (ej133_0 : Option Nat × Obj), HS wb Fb w F9 ((sb bp0 (Af r64.1 ar64_0_0 nr64_0_0) 100) :: (sb bp1 #[(.slice a1_0 x1.Points.length n1_0), (.slice a1_1 x1.Multipliers.length n1_1), (.slice a1_2 x1.Penalties.length n1_2), (.slice aj133_0 j133.length nj133_0)] 26) :: e1_0 :: e1_1 :: e1_2 :: ej133_0 :: Lf) /\ WI F8 F9 /\ FI f [] [] /\ AC Au 33 F9 aj133_0 nj133_0 j133 ej133_0) (fun wd128 hw129 => ?_) ?_
       ·refine Dv [0, 1, 2, 4] ?_
        refine Dl 5 (fun _ hq => (hq.1.2 1 _ _ rfl)) ?_
        refine DWP.two (i := 3) (j := 7) (by kernel_rfl) ?_ ?_
        ·refine WW (l' := [true, true, true, true, true, true, false, false, false, false, false, false, false, false]) (zd := true) (by kernel_rfl) (by kernel_rfl) (dst := (some 39)) (ty := 24) (g := none) (by kernel_rfl) rfl (CX (t := 24) (x := (.tmp 38)) (b := bp1) (o := 3) (g := false) (s := 1) (C := (AP x1 a1_0 n1_0 a1_1 n1_1 a1_2 n1_2 a1_3 n1_3)) (v := (.slice a1_3 x1.Repeats.length n1_3)) rfl (by kernel_rfl) hw129.at2 rfl rfl rfl) (Ck hw129 (WJ _) (by simp) (fun e => by cases e)) ?_
         refine Dv [6] ?_
         refine D1 7 ?_
         refine DBs 33 [(vi 0), (vi 0), (.slice none ([] : List Expr).length 0)] hw129 (WJ _) (fun b137 w138 hs139 => ?_)
         have hr141 : AC Au 33 F8 (some ⟨b137, 0, none⟩) 1 [({ Op := 0, Value := 0, Kids := ([] : List Expr) } : Expr)] (some b137, .cells ([(vi 0), (vi 0), (.slice none ([] : List Expr).length 0)] : List Value).toArray 33 (0, 0)) := W0 ⟨(BG ⟨none, 0, rfl, WM, (.inl rfl)⟩), rfl⟩ (by simp)
         refine D1 8 ?_
         obtain ⟨r142, hap143, h144⟩ := bind_some hj135
         refine VI Ti hs139 (hr1_3.mono (((((le46.trans le58).trans le68).trans le84).trans le91).trans le125)) (hs139.rd0 hr141) hap143 (WJ _) (fun a145 n146 e147 w148 hs149 hr150 => ?_)
         obtain ⟨x151, hx152, h154⟩ := bind_some h144
         obtain ⟨hi153, hx152'⟩ := Ay hx152
         obtain ⟨b155, C156, rfl, rfl, hE159⟩ := AC.open hr150 hx152'
         have hr160 := hr150
         obtain ⟨ae161_2, ne161_2, hc162, hbe161_2, hse161_2⟩ := (AZ (hE159 _ _ hx152'))
         refine Dj 9 hi153 ?_
         refine Dv [11, 12] ?_
         refine DWP.two (i := 10) (j := 13) (by kernel_rfl) ?_ ?_
         ·refine AG.storeRow (l' := [true, true, true, true, true, true, true, true, true, true, true, true, true, false]) (zd := true) (by kernel_rfl) (by kernel_rfl) (ty := 0) (g := none) (by kernel_rfl) rfl (x := (.tmp 45)) (y := (.tmp 41)) (t := 33) (v := (.agg (Ak r64.2.Expr ar64_1_2 nr64_1_2))) (gg := true) (b := b155) (j := ((x1.Repeats.length : Int) : Int).toNat) (C := C156) (T := Au) (E := 33) (u := r64.2.Expr) rfl rfl (by kernel_rfl) hs149 (k := 7) rfl hr160 hx152' (BG ⟨ar64_1_2, nr64_1_2, rfl, hbr64_1_2, (WL hsr64_1_2 ((le84.trans le91).trans le125))⟩) rfl (WJ _) (fun _ => by simp) (fun e => by cases e) (fun C163 w164 (hs165 : HS wb Fb w164 F8 ((some b137, .cells ([(vi 0), (vi 0), (.slice none ([] : List Expr).length 0)] : List Value).toArray 33 (0, 0)) :: (sb bp0 (Af r64.1 ar64_0_0 nr64_0_0) 100) :: (sb b71 (Am r64.2 ar64_1_2 nr64_1_2) 113) :: (sb bp1 (AP x1 a1_0 n1_0 a1_1 n1_1 a1_2 n1_2 a1_3 n1_3) 26) :: e1_0 :: e1_1 :: e1_2 :: (some b155, .cells C163 33 (0, 0)) :: Lf)) hr166 => ?_)
          refine D1 13 ?_
          refine AG.store (l' := [true, true, true, true, true, true, true, true, true, true, true, true, true, true]) (zd := true) (by kernel_rfl) (by kernel_rfl) (ty := 0) (g := none) (by kernel_rfl) rfl (x := (.tmp 47)) (y := (.tmp 44)) (t := 24) (gg := false) (s := 1) (v := (.slice (some ⟨b155, 0, none⟩) (r142.set ((x1.Repeats.length : Int) : Int).toNat r64.2.Expr).length n146)) (b := bp1) (o := 3) (C := (AP x1 a1_0 n1_0 a1_1 n1_1 a1_2 n1_2 a1_3 n1_3)) rfl (Ov rfl) (by kernel_rfl) hs165 (k := 3) rfl rfl rfl rfl (C' := #[(.slice a1_0 x1.Points.length n1_0), (.slice a1_1 x1.Multipliers.length n1_1), (.slice a1_2 x1.Penalties.length n1_2), (.slice (some ⟨b155, 0, none⟩) (r142.set ((x1.Repeats.length : Int) : Int).toNat r64.2.Expr).length n146)]) rfl (WJ _) (by simp) (fun e => by cases e) (fun w167 (hs168 : HS wb Fb w167 F8 ((some b137, .cells ([(vi 0), (vi 0), (.slice none ([] : List Expr).length 0)] : List Value).toArray 33 (0, 0)) :: (sb bp0 (Af r64.1 ar64_0_0 nr64_0_0) 100) :: (sb b71 (Am r64.2 ar64_1_2 nr64_1_2) 113) :: (sb bp1 #[(.slice a1_0 x1.Points.length n1_0), (.slice a1_1 x1.Multipliers.length n1_1), (.slice a1_2 x1.Penalties.length n1_2), (.slice (some ⟨b155, 0, none⟩) (r142.set ((x1.Repeats.length : Int) : Int).toNat r64.2.Expr).length n146)] 26) :: e1_0 :: e1_1 :: e1_2 :: (some b155, .cells C163 33 (0, 0)) :: Lf)) => ?_)
          obtain rfl := Ac h154
          exact WY (by kernel_rfl) ⟨F8, (some ⟨b155, 0, none⟩), n146, (some b155, .cells C163 33 (0, 0)), hs168.dr0.dr1, (WJ _), fI, hr166⟩
         ·refine VH #[(.slice a1_0 x1.Points.length n1_0), (.slice a1_1 x1.Multipliers.length n1_1), (.slice a1_2 x1.Penalties.length n1_2), (.slice (some ⟨b155, 0, none⟩) r142.length n146)] hs149 (WJ _) (fun w169 hs170 => ?_)
          refine D1 10 ?_
          refine AG.storeRow (l' := [true, true, true, true, true, true, true, true, true, true, true, true, true, true]) (zd := true) (by kernel_rfl) (by kernel_rfl) (ty := 0) (g := none) (by kernel_rfl) rfl (x := (.tmp 45)) (y := (.tmp 41)) (t := 33) (v := (.agg (Ak r64.2.Expr ar64_1_2 nr64_1_2))) (gg := true) (b := b155) (j := ((x1.Repeats.length : Int) : Int).toNat) (C := C156) (T := Au) (E := 33) (u := r64.2.Expr) rfl rfl (by kernel_rfl) hs170 (k := 7) rfl hr160 hx152' (BG ⟨ar64_1_2, nr64_1_2, rfl, hbr64_1_2, (WL hsr64_1_2 ((le84.trans le91).trans le125))⟩) rfl (WJ _) (fun _ => by simp) (fun e => by cases e) (fun C171 w172 (hs173 : HS wb Fb w172 F8 ((some b137, .cells ([(vi 0), (vi 0), (.slice none ([] : List Expr).length 0)] : List Value).toArray 33 (0, 0)) :: (sb bp0 (Af r64.1 ar64_0_0 nr64_0_0) 100) :: (sb b71 (Am r64.2 ar64_1_2 nr64_1_2) 113) :: (sb bp1 #[(.slice a1_0 x1.Points.length n1_0), (.slice a1_1 x1.Multipliers.length n1_1), (.slice a1_2 x1.Penalties.length n1_2), (.slice (some ⟨b155, 0, none⟩) r142.length n146)] 26) :: e1_0 :: e1_1 :: e1_2 :: (some b155, .cells C171 33 (0, 0)) :: Lf)) hr174 => ?_)
          have hs175 : HS wb Fb w172 F8 ((some b137, .cells ([(vi 0), (vi 0), (.slice none ([] : List Expr).length 0)] : List Value).toArray 33 (0, 0)) :: (sb bp0 (Af r64.1 ar64_0_0 nr64_0_0) 100) :: (sb b71 (Am r64.2 ar64_1_2 nr64_1_2) 113) :: (sb bp1 #[(.slice a1_0 x1.Points.length n1_0), (.slice a1_1 x1.Multipliers.length n1_1), (.slice a1_2 x1.Penalties.length n1_2), (.slice (some ⟨b155, 0, none⟩) (r142.set ((x1.Repeats.length : Int) : Int).toNat r64.2.Expr).length n146)] 26) :: e1_0 :: e1_1 :: e1_2 :: (some b155, .cells C171 33 (0, 0)) :: Lf) := by have hq := hs173; simp only [List.length_set] at hq ⊢; exact hq
          obtain rfl := Ac h154
          exact WY (by kernel_rfl) ⟨F8, (some ⟨b155, 0, none⟩), n146, (some b155, .cells C171 33 (0, 0)), hs175.dr0.dr1, (WJ _), fI, hr174⟩
        ·refine DBs 33 [(vi 0), (vi 0), (.slice none ([] : List Expr).length 0)] hw129 (WJ _) (fun b176 w177 hs178 => ?_)
         have hr180 : AC Au 33 F8 (some ⟨b176, 0, none⟩) 1 [({ Op := 0, Value := 0, Kids := ([] : List Expr) } : Expr)] (some b176, .cells ([(vi 0), (vi 0), (.slice none ([] : List Expr).length 0)] : List Value).toArray 33 (0, 0)) := W0 ⟨(BG ⟨none, 0, rfl, WM, (.inl rfl)⟩), rfl⟩ (by simp)
         refine D1 3 ?_
         refine WW (l' := [true, true, true, true, true, true, false, true, false, false, false, false, false, false]) (zd := true) (by kernel_rfl) (by kernel_rfl) (dst := (some 39)) (ty := 24) (g := none) (by kernel_rfl) rfl (CX (t := 24) (x := (.tmp 38)) (b := bp1) (o := 3) (g := false) (s := 1) (C := (AP x1 a1_0 n1_0 a1_1 n1_1 a1_2 n1_2 a1_3 n1_3)) (v := (.slice a1_3 x1.Repeats.length n1_3)) rfl (by kernel_rfl) hs178.at3 rfl rfl rfl) (Ck hs178 (WJ _) (by simp) (fun e => by cases e)) ?_
         refine Dv [6] ?_
         refine D1 8 ?_
         obtain ⟨r181, hap182, h183⟩ := bind_some hj135
         refine VI Ti hs178 (hr1_3.mono (((((le46.trans le58).trans le68).trans le84).trans le91).trans le125)) (hs178.rd0 hr180) hap182 (WJ _) (fun a184 n185 e186 w187 hs188 hr189 => ?_)
         obtain ⟨x190, hx191, h193⟩ := bind_some h183
         obtain ⟨hi192, hx191'⟩ := Ay hx191
         obtain ⟨b194, C195, rfl, rfl, hE198⟩ := AC.open hr189 hx191'
         have hr199 := hr189
         obtain ⟨ae200_2, ne200_2, hc201, hbe200_2, hse200_2⟩ := (AZ (hE198 _ _ hx191'))
         refine Dj 9 hi192 ?_
         refine Dv [11, 12] ?_
         refine DWP.two (i := 10) (j := 13) (by kernel_rfl) ?_ ?_
         ·refine AG.storeRow (l' := [true, true, true, true, true, true, true, true, true, true, true, true, true, false]) (zd := true) (by kernel_rfl) (by kernel_rfl) (ty := 0) (g := none) (by kernel_rfl) rfl (x := (.tmp 45)) (y := (.tmp 41)) (t := 33) (v := (.agg (Ak r64.2.Expr ar64_1_2 nr64_1_2))) (gg := true) (b := b194) (j := ((x1.Repeats.length : Int) : Int).toNat) (C := C195) (T := Au) (E := 33) (u := r64.2.Expr) rfl rfl (by kernel_rfl) hs188 (k := 7) rfl hr199 hx191' (BG ⟨ar64_1_2, nr64_1_2, rfl, hbr64_1_2, (WL hsr64_1_2 ((le84.trans le91).trans le125))⟩) rfl (WJ _) (fun _ => by simp) (fun e => by cases e) (fun C202 w203 (hs204 : HS wb Fb w203 F8 ((some b176, .cells ([(vi 0), (vi 0), (.slice none ([] : List Expr).length 0)] : List Value).toArray 33 (0, 0)) :: (sb bp0 (Af r64.1 ar64_0_0 nr64_0_0) 100) :: (sb b71 (Am r64.2 ar64_1_2 nr64_1_2) 113) :: (sb bp1 (AP x1 a1_0 n1_0 a1_1 n1_1 a1_2 n1_2 a1_3 n1_3) 26) :: e1_0 :: e1_1 :: e1_2 :: (some b194, .cells C202 33 (0, 0)) :: Lf)) hr205 => ?_)
          refine D1 13 ?_
          refine AG.store (l' := [true, true, true, true, true, true, true, true, true, true, true, true, true, true]) (zd := true) (by kernel_rfl) (by kernel_rfl) (ty := 0) (g := none) (by kernel_rfl) rfl (x := (.tmp 47)) (y := (.tmp 44)) (t := 24) (gg := false) (s := 1) (v := (.slice (some ⟨b194, 0, none⟩) (r181.set ((x1.Repeats.length : Int) : Int).toNat r64.2.Expr).length n185)) (b := bp1) (o := 3) (C := (AP x1 a1_0 n1_0 a1_1 n1_1 a1_2 n1_2 a1_3 n1_3)) rfl (Ov rfl) (by kernel_rfl) hs204 (k := 3) rfl rfl rfl rfl (C' := #[(.slice a1_0 x1.Points.length n1_0), (.slice a1_1 x1.Multipliers.length n1_1), (.slice a1_2 x1.Penalties.length n1_2), (.slice (some ⟨b194, 0, none⟩) (r181.set ((x1.Repeats.length : Int) : Int).toNat r64.2.Expr).length n185)]) rfl (WJ _) (by simp) (fun e => by cases e) (fun w206 (hs207 : HS wb Fb w206 F8 ((some b176, .cells ([(vi 0), (vi 0), (.slice none ([] : List Expr).length 0)] : List Value).toArray 33 (0, 0)) :: (sb bp0 (Af r64.1 ar64_0_0 nr64_0_0) 100) :: (sb b71 (Am r64.2 ar64_1_2 nr64_1_2) 113) :: (sb bp1 #[(.slice a1_0 x1.Points.length n1_0), (.slice a1_1 x1.Multipliers.length n1_1), (.slice a1_2 x1.Penalties.length n1_2), (.slice (some ⟨b194, 0, none⟩) (r181.set ((x1.Repeats.length : Int) : Int).toNat r64.2.Expr).length n185)] 26) :: e1_0 :: e1_1 :: e1_2 :: (some b194, .cells C202 33 (0, 0)) :: Lf)) => ?_)
          obtain rfl := Ac h193
          exact WY (by kernel_rfl) ⟨F8, (some ⟨b194, 0, none⟩), n185, (some b194, .cells C202 33 (0, 0)), hs207.dr0.dr1, (WJ _), fI, hr205⟩
         ·refine VH #[(.slice a1_0 x1.Points.length n1_0), (.slice a1_1 x1.Multipliers.length n1_1), (.slice a1_2 x1.Penalties.length n1_2), (.slice (some ⟨b194, 0, none⟩) r181.length n185)] hs188 (WJ _) (fun w208 hs209 => ?_)
          refine D1 10 ?_
          refine AG.storeRow (l' := [true, true, true, true, true, true, true, true, true, true, true, true, true, true]) (zd := true) (by kernel_rfl) (by kernel_rfl) (ty := 0) (g := none) (by kernel_rfl) rfl (x := (.tmp 45)) (y := (.tmp 41)) (t := 33) (v := (.agg (Ak r64.2.Expr ar64_1_2 nr64_1_2))) (gg := true) (b := b194) (j := ((x1.Repeats.length : Int) : Int).toNat) (C := C195) (T := Au) (E := 33) (u := r64.2.Expr) rfl rfl (by kernel_rfl) hs209 (k := 7) rfl hr199 hx191' (BG ⟨ar64_1_2, nr64_1_2, rfl, hbr64_1_2, (WL hsr64_1_2 ((le84.trans le91).trans le125))⟩) rfl (WJ _) (fun _ => by simp) (fun e => by cases e) (fun C210 w211 (hs212 : HS wb Fb w211 F8 ((some b176, .cells ([(vi 0), (vi 0), (.slice none ([] : List Expr).length 0)] : List Value).toArray 33 (0, 0)) :: (sb bp0 (Af r64.1 ar64_0_0 nr64_0_0) 100) :: (sb b71 (Am r64.2 ar64_1_2 nr64_1_2) 113) :: (sb bp1 #[(.slice a1_0 x1.Points.length n1_0), (.slice a1_1 x1.Multipliers.length n1_1), (.slice a1_2 x1.Penalties.length n1_2), (.slice (some ⟨b194, 0, none⟩) r181.length n185)] 26) :: e1_0 :: e1_1 :: e1_2 :: (some b194, .cells C210 33 (0, 0)) :: Lf)) hr213 => ?_)
          have hs214 : HS wb Fb w211 F8 ((some b176, .cells ([(vi 0), (vi 0), (.slice none ([] : List Expr).length 0)] : List Value).toArray 33 (0, 0)) :: (sb bp0 (Af r64.1 ar64_0_0 nr64_0_0) 100) :: (sb b71 (Am r64.2 ar64_1_2 nr64_1_2) 113) :: (sb bp1 #[(.slice a1_0 x1.Points.length n1_0), (.slice a1_1 x1.Multipliers.length n1_1), (.slice a1_2 x1.Penalties.length n1_2), (.slice (some ⟨b194, 0, none⟩) (r181.set ((x1.Repeats.length : Int) : Int).toNat r64.2.Expr).length n185)] 26) :: e1_0 :: e1_1 :: e1_2 :: (some b194, .cells C210 33 (0, 0)) :: Lf) := by have hq := hs212; simp only [List.length_set] at hq ⊢; exact hq
          obtain rfl := Ac h193
          exact WY (by kernel_rfl) ⟨F8, (some ⟨b194, 0, none⟩), n185, (some b194, .cells C210 33 (0, 0)), hs214.dr0.dr1, (WJ _), fI, hr213⟩
       ·rintro f w130 ⟨F9, aj133_0, nj133_0, ej133_0, hs131, le132, ⟨_, rfl⟩, hrj133_0⟩
        refine Ad ?_
        refine Rt ?_
        refine Aj ?_
        obtain rfl := Ac h136
        exact ReP [] hs131 ((((((le46.trans le58).trans le68).trans le84).trans le91).trans le125).trans le132) ⟨ar64_0_0, nr64_0_0, a1_0, n1_0, e1_0, a1_1, n1_1, e1_1, a1_2, n1_2, e1_2, aj133_0, nj133_0, ej133_0, rfl, rfl, hbr64_0_0, (WL hsr64_0_0 (((le84.trans le91).trans le125).trans le132)), (hr1_0.mono ((((((le46.trans le58).trans le68).trans le84).trans le91).trans le125).trans le132)), (hr1_1.mono ((((((le46.trans le58).trans le68).trans le84).trans le91).trans le125).trans le132)), (hr1_2.mono ((((((le46.trans le58).trans le68).trans le84).trans le91).trans le125).trans le132)), hrj133_0⟩
      ·rintro b215 F10 w216 rfl hs217 le218
       have h219 := Bw h120
       refine Al ?_
       refine Al ?_
       have hs221 := hs217.dr0.dr0.dr0.dr0.dr0
       obtain rfl := Ac h219
       exact CW hs221.dr0 (((((le46.trans le58).trans le68).trans le84).trans le91).trans le218)
     ·rintro c f w223 ⟨hd226, b222, F11, rfl, rfl, hs224, le225⟩
      have h227 := Bw h98
      refine Al ?_
      refine Al ?_
      obtain rfl := Ac h227
      exact ⟨hd226, .inr ⟨_, F11, rfl, rfl, hs224, ((((le46.trans le58).trans le68).trans le84).trans le225)⟩⟩
    ·rintro b228 F12 w229 rfl hs230 le231
     have h232 := Bw h79
     refine Al ?_
     refine Al ?_
     have hs234 := hs230.dr0.dr0.dr0.dr0.dr0
     obtain rfl := Ac h232
     exact CW hs234.dr0.dr0 (((le46.trans le58).trans le68).trans le231)
   ·rintro b235 F13 w236 rfl hs237 le238
    have h239 := Bw h63
    refine Al ?_
    refine Al ?_
    have hs241 := hs237.dr0.dr0.dr0.dr0.dr0
    obtain rfl := Ac h239
    exact CW hs241.dr0 ((le46.trans le58).trans le238)
  ·rintro b242 F14 w243 rfl hs244 le245
   have h246 := Bw h53
   refine Al ?_
   refine Al ?_
   have hs248 := hs244.dr0.dr0.dr0.dr0.dr0
   obtain rfl := Ac h246
   exact CW hs248.dr0 (le46.trans le245)
 ·refine Sc ?_
  refine Ad ?_
  refine Sq ?_
  refine Qn (L := ((sb bp0 (Af r41.1 ar41_0_0 nr41_0_0) 100) :: (sb b35 (A7 x21) 97) :: (sb bp1 (AP x1 a1_0 n1_0 a1_1 n1_1 a1_2 n1_2 a1_3 n1_3) 26) :: e1_0 :: e1_1 :: e1_2 :: e1_3 :: Lf)) hs45 rfl (fun f249 w250 e251 b252 hs253 hp254 h255 hkeep => ?_)
  have h256 : f249.d = [] := (hkeep.1).trans rfl
  have h257 : f249 0 = (pt bp0 0) := (hkeep.2.1).trans rfl
  have h258 : f249 4 = (pt b35 0) := (hkeep.2.2).trans rfl
  clear hkeep
  have hs259 : HS wb Fb w250 F1 (e251 :: (sb bp0 (Af r41.1 ar41_0_0 nr41_0_0) 100) :: (sb b35 (A7 x21) 97) :: (sb bp1 (AP x1 a1_0 n1_0 a1_1 n1_1 a1_2 n1_2 a1_3 n1_3) 26) :: e1_0 :: e1_1 :: e1_2 :: e1_3 :: Lf) := hs253
  refine Ad ?_
  refine Sq (Rg [0, 1, 2, 3, 4, 5, 6, 7, 8] ?_)
  refine V 60 167 (mv 6 (.map (some b252)) h255) ?_
  refine V 61 0 (fa 97 4 2 2 1 b35 0 2 h258) ?_
  refine Ld hs259.at2 ?_
  refine Sp h50 (fun hb260 h261 => ?_) (fun hb260 h262 => ?_)
  ·refine V 63 168 (HP (mt := 167) (k := 9) (vt := 166) (m := (.tmp 60)) (x := (.tmp 62)) rfl rfl (by kernel_rfl) (by kernel_rfl) (hs259.ownAt' (k := 0) rfl) hp254 (Sa hb260)) ?_
   refine Vs 5 ?_
   refine Nss ?_
   refine Sq (Rg [0, 1, 2, 3, 4, 5, 6, 7, 8] ?_)
   refine Vs 3 ?_
   refine Vg 69 95 2 false 68 rfl (mv 0 (pt bp0 0) h257) ?_
   refine Vg 70 0 2 false 68 rfl (fa 97 4 2 2 1 b35 0 2 h258) ?_
   refine Vg 71 9 2 false 68 rfl (ld 9 70 b35 2 false 1 (.string ⟨(x21.text_).toArray⟩) hs259.at2) ?_
   have hs263 := hs259.pk7.pk7.pk7.pk7.pk7
   obtain ⟨r264, hr265, h266⟩ := bind_some h261
   refine RWP.callB (dst := (some 72)) (ty := 4) (g := (some (2, false))) (by kernel_rfl) (MN (d := 68) (by kernel_rfl) rfl rfl) (f0 := (.func 80)) (aos := #[(.tmp 69), (.tmp 71)]) (ats := #[95, 9]) (fid := 80) (first := #[]) (cap := #[]) (args := [(pt bp0 0), (.string ⟨(x21.text_).toArray⟩)]) rfl AO rfl (AU N bp0 r41.1 ar41_0_0 nr41_0_0 hbr41_0_0 hsr41_0_0 x21.text_ hs263.pk7.pk6.pk7 _ hr265) ?_
   rintro _ F15 w267 _ hs268 le269 ⟨ar264_0_0, nr264_0_0, rfl, rfl, hbr264_0_0, hsr264_0_0⟩
   refine Vg 73 4 2 false 68 rfl (II (t := 4) (x := (.tmp 72)) (a := r264.2) rfl) ?_
   refine Pk0 (rfl : false = false) ?_
   refine Nt ?_
   refine Cd h266 (fun hb271 h272 => ?_) (fun hb271 h273 => ?_)
   ·refine Rg [0, 1, 2, 3] ?_
    refine V 75 95 (mv 0 (pt bp0 0) h257) ?_
    refine V 76 0 (fa 97 4 1 1 1 b35 0 1 h258) ?_
    refine Ld hs268.at2 ?_
    obtain ⟨r274, hr275, h276⟩ := bind_some h272
    refine CP AQ (AW N bp0 r264.1 ar264_0_0 nr264_0_0 hbr264_0_0 hsr264_0_0 60 x21.at_ hs268 _ hr275) ?_ ?_
    ·rintro _ _ _ _ _ rfl _ _ _; cases hr275
    ·rintro b279 F17 w280 rfl hs281 le282
     have h283 := Bw h276
     refine Al ?_
     have hs285 := hs281.dr0.dr0.dr0.dr0.dr0
     obtain rfl := Ac h283
     exact ⟨h256, .inr ⟨_, F17, rfl, rfl, hs285.dr0.dr0, ((le46.trans le269).trans le282)⟩⟩
   ·refine Sc ?_
    refine Ad ?_
    refine Sq (Rg [0, 1] ?_)
    refine V 79 95 (mv 0 (pt bp0 0) h257) ?_
    obtain ⟨r286, hr287, h288⟩ := bind_some h273
    refine CP A3 (A4 N bp0 r264.1 ar264_0_0 nr264_0_0 hbr264_0_0 hsr264_0_0 (([58] : W4)) hs268 _ hr287) ?_ ?_
    ·rintro r289 _ F18 w291 _ rfl hs292 le293 ⟨ar289_0_0, nr289_0_0, rfl, rfl, hbr289_0_0, hsr289_0_0⟩
     have h295 := BQ h288
     refine Nss (Rg [0, 1, 2, 3] ?_)
     refine V 81 95 (mv 0 (pt bp0 0) h257) ?_
     obtain ⟨r296, hr297, h298⟩ := bind_some h295
     refine CP Bm (Br N (hG.mono ((le46.trans le269).trans le293)) bp0 r289 ar289_0_0 nr289_0_0 hbr289_0_0 hsr289_0_0 hs292 _ hr297) ?_ ?_
     ·rintro r299 _ F19 w301 _ rfl hs302 le303 ⟨ar299_0_0, nr299_0_0, ar299_1_2, nr299_1_2, rfl, rfl, hbr299_0_0, hsr299_0_0, hbr299_1_2, hsr299_1_2⟩
      have h305 := BQ h298
      refine Al' 113 #[(vi 0), (vi 0), (.slice none ([] : List Expr).length 0), (vi 0)] hs302 (fun b306 w307 hs308 => ?_)
      refine St0 (Am r299.2 ar299_1_2 nr299_1_2) hs308 (fun w309 hs310 => ?_)
      refine Nss (Rg [0, 1] ?_)
      refine V 83 95 (mv 0 (pt bp0 0) h257) ?_
      have hs317 : HS wb Fb w309 F19 (e251 :: (sb b35 (A7 x21) 97) :: (sb bp1 (AP x1 a1_0 n1_0 a1_1 n1_1 a1_2 n1_2 a1_3 n1_3) 26) :: e1_0 :: e1_1 :: e1_2 :: e1_3 :: (sb b306 (Am r299.2 ar299_1_2 nr299_1_2) 113) :: (sb bp0 (Af r299.1 ar299_0_0 nr299_0_0) 100) :: Lf) := hs310.pm [2, 3, 4, 5, 6, 7, 8, 0, 1]
      have hs318 : HS wb Fb w309 F19 ((sb bp0 (Af r299.1 ar299_0_0 nr299_0_0) 100) :: (sb b306 (Am r299.2 ar299_1_2 nr299_1_2) 113) :: e251 :: (sb b35 (A7 x21) 97) :: (sb bp1 (AP x1 a1_0 n1_0 a1_1 n1_1 a1_2 n1_2 a1_3 n1_3) 26) :: e1_0 :: e1_1 :: e1_2 :: e1_3 :: Lf) := hs317.pk7.pick (k := 8) rfl
      obtain ⟨r319, hr320, h321⟩ := bind_some h305
      refine CP A3 (A4 N bp0 r299.1 ar299_0_0 nr299_0_0 hbr299_0_0 hsr299_0_0 (([61, 62] : W4)) hs318 _ hr320) ?_ ?_
      ·rintro r322 _ F20 w324 _ rfl hs325 le326 ⟨ar322_0_0, nr322_0_0, rfl, rfl, hbr322_0_0, hsr322_0_0⟩
       have h328 := BQ h321
       refine Nss (Rg [0, 1, 2, 3] ?_)
       refine V 85 95 (mv 0 (pt bp0 0) h257) ?_
       obtain ⟨r329, hr330, h331⟩ := bind_some h328
       refine CP Bm (Br N (hG.mono ((((le46.trans le269).trans le293).trans le303).trans le326)) bp0 r322 ar322_0_0 nr322_0_0 hbr322_0_0 hsr322_0_0 hs325 _ hr330) ?_ ?_
       ·rintro r332 _ F21 w334 _ rfl hs335 le336 ⟨ar332_0_0, nr332_0_0, ar332_1_2, nr332_1_2, rfl, rfl, hbr332_0_0, hsr332_0_0, hbr332_1_2, hsr332_1_2⟩
        have h338 := BQ h331
        refine Al' 113 #[(vi 0), (vi 0), (.slice none ([] : List Expr).length 0), (vi 0)] hs335 (fun b339 w340 hs341 => ?_)
        refine St0 (Am r332.2 ar332_1_2 nr332_1_2) hs341 (fun w342 hs343 => ?_)
        refine Nss (Rg [0, 1] ?_)
        refine V 87 95 (mv 0 (pt bp0 0) h257) ?_
        have hs353 : HS wb Fb w342 F21 ((sb bp0 (Af r332.1 ar332_0_0 nr332_0_0) 100) :: (sb b339 (Am r332.2 ar332_1_2 nr332_1_2) 113) :: (sb b306 (Am r299.2 ar299_1_2 nr299_1_2) 113) :: e251 :: (sb b35 (A7 x21) 97) :: (sb bp1 (AP x1 a1_0 n1_0 a1_1 n1_1 a1_2 n1_2 a1_3 n1_3) 26) :: e1_0 :: e1_1 :: e1_2 :: e1_3 :: Lf) := hs343.pm [1, 0, 2, 3, 4, 5, 6, 7, 8, 9]
        obtain ⟨r354, hr355, h356⟩ := bind_some h338
        refine CP CU (C6 N bp0 r332.1 ar332_0_0 nr332_0_0 hbr332_0_0 hsr332_0_0 hs353 _ hr355) ?_ ?_
        ·rintro r357 _ F22 w359 _ rfl hs360 le361 ⟨rfl, rfl⟩
         have h363 := BQ h356
         refine Nss ?_
         obtain ⟨j369, hj375, h376⟩ := bind_some h363
         refine RDP 7 7 [(sb bp0 (Af r332.1 ar332_0_0 nr332_0_0) 100), (sb b339 (Am r332.2 ar332_1_2 nr332_1_2) 113), (sb b306 (Am r299.2 ar299_1_2 nr299_1_2) 113), e251, (sb b35 (A7 x21) 97), (sb bp1 (AP x1 a1_0 n1_0 a1_1 n1_1 a1_2 n1_2 a1_3 n1_3) 26), e1_0, e1_1, e1_2, e1_3] [] hs360 (fun c d w => d = [] /\ ∃ (b : Ag) (Fp : Mem), j369 = .inl b /\ c = [{ v := (.iface 158 (.agg (A2 b))), recovered := false }] /\ HS wb Fb w Fp Lf /\ WI F22 Fp) (fun f w => ∃ (J377 : Unit), j369 = .inr J377 /\ ∃ (F23 : Mem), HS wb Fb w F23 ((sb bp0 (Af r332.1 ar332_0_0 nr332_0_0) 100) :: (sb b339 (Am r332.2 ar332_1_2 nr332_1_2) 113) :: (sb b306 (Am r299.2 ar299_1_2 nr299_1_2) 113) :: (sb bp1 (AP x1 a1_0 n1_0 a1_1 n1_1 a1_2 n1_2 a1_3 n1_3) 26) :: e1_0 :: e1_1 :: e1_2 :: e1_3 :: Lf) /\ WI F22 F23 /\ FI f [] [(0, (pt bp0 0)), (7, (pt bp1 0)), (9, (pt b306 0)), (10, (pt b339 0))]) (fun wd364 hw365 => ?_) ?_ ?_
         ·refine Dt 0 89 95 _ (fun _ hq => mv 0 (pt bp0 0) h257) ?_
          refine Dv [1, 2] ?_
          refine Dl 3 (fun _ hq => (hq.1.2 5 _ _ rfl)) ?_
          refine Dt 4 93 0 (pt b35 1) (fun _ hq => fa 97 4 1 1 1 b35 0 1 h258) ?_
          refine Dl 5 (fun _ hq => (hq.1.2 4 _ _ rfl)) ?_
          refine D1 6 ?_
          obtain ⟨r378, hr379, h380⟩ := bind_some hj375
          refine DCP C9 (Dq N bp0 r332.1 ar332_0_0 nr332_0_0 hbr332_0_0 (WL hsr332_0_0 le361) x1.Points a1_0 n1_0 x21.at_ hw365 _ hr379) ?_ ?_
          ·rintro r381 _ F24 w383 _ rfl hs384 le385 ⟨rfl, rfl⟩
           have h387 := BQ h380
           refine ⟨Ck hs384 le385 (by simp) (zdT (by kernel_rfl)), ?_⟩
           obtain rfl := Ac h387
           exact WY (by kernel_rfl) ⟨_, rfl, F24, hs384.dr3.dr3, le385, (fJ ⟨h257, rfl, rfl, rfl, trivial⟩ (hd := h256))⟩
          ·rintro b388 F25 w389 rfl hs390 le391
           have h392 := Bw h380
           obtain rfl := Ac h392
           have hs394 := hs390.dr0.dr0.dr0.dr0.dr0
           exact ⟨h256, _, _, rfl, rfl, hs394.dr0.dr0.dr0.dr0, le391⟩
         ·rintro f w366 ⟨J377, rfl, F23, hs367, le368, ⟨_, rfl⟩⟩
          have h395 := BQ h376
          refine Ad ?_
          refine Sq (Rg [0, 1, 2] ?_)
          refine Vs 1 ?_
          refine Ld hs367.at2 ?_
          obtain ⟨r396, hr397, h398⟩ := bind_some h395
          refine CP Bq (Bx N bp0 r332.1 ar332_0_0 nr332_0_0 hbr332_0_0 (WL hsr332_0_0 (le361.trans le368)) r299.2 ar299_1_2 nr299_1_2 hbr299_1_2 (WL hsr299_1_2 (((le326.trans le336).trans le361).trans le368)) 2 hs367 _ hr397) ?_ ?_
          ·rintro r399 _ F26 w401 _ rfl hs402 le403 ⟨rfl, rfl⟩
           have h405 := BQ h398
           refine Nss (Rg [0, 1, 2] ?_)
           refine Vs 1 ?_
           refine Ld hs402.at1 ?_
           obtain ⟨r406, hr407, h408⟩ := bind_some h405
           refine CP Bq (Bx N bp0 r332.1 ar332_0_0 nr332_0_0 hbr332_0_0 (WL hsr332_0_0 ((le361.trans le368).trans le403)) r332.2 ar332_1_2 nr332_1_2 hbr332_1_2 (WL hsr332_1_2 ((le361.trans le368).trans le403)) 1 hs402 _ hr407) ?_ ?_
           ·rintro r409 _ F27 w411 _ rfl hs412 le413 ⟨rfl, rfl⟩
            have h415 := BQ h408
            refine Nt ?_
            obtain ⟨j421, hj423, h424⟩ := bind_some h415
            refine RD 12 13 [(sb bp0 (Af r332.1 ar332_0_0 nr332_0_0) 100), (sb b339 (Am r332.2 ar332_1_2 nr332_1_2) 113), (sb b306 (Am r299.2 ar299_1_2 nr299_1_2) 113), e1_1, e1_2, e1_3] [(sb bp1 (AP x1 a1_0 n1_0 a1_1 n1_1 a1_2 n1_2 a1_3 n1_3) 26)] hs412 (fun f w => ∃ (F28 : Mem) (aj421_0 : W5) (nj421_0 : Nat) (ej421_0 : Option Nat × Obj), HS wb Fb w F28 ((sb bp0 (Af r332.1 ar332_0_0 nr332_0_0) 100) :: (sb bp1 #[(.slice aj421_0 j421.length nj421_0), (.slice a1_1 x1.Multipliers.length n1_1), (.slice a1_2 x1.Penalties.length n1_2), (.slice a1_3 x1.Repeats.length n1_3)] 26) :: ej421_0 :: e1_1 :: e1_2 :: e1_3 :: Lf) /\ WI F27 F28 /\ FI f [] [] /\ AC Av 56 F28 aj421_0 nj421_0 j421 ej421_0) (fun wd416 hw417 => ?_) ?_
            ·refine Dv [0, 1, 2] ?_
             refine Dl 3 (fun _ hq => ((hq.2 rfl).2 0 _ _ rfl)) ?_
             refine Dv [4] ?_
             refine Dl 5 (fun _ hq => (hq.1.2 2 _ _ rfl)) ?_
             refine Dv [6] ?_
             refine Dl 7 (fun _ hq => (hq.1.2 1 _ _ rfl)) ?_
             refine Dv [8] ?_
             refine D1 9 ?_
             refine DBs 56 [(vi r299.2.Expr.Op), (vi r299.2.Expr.Value), (.slice ar299_1_2 r299.2.Expr.Kids.length nr299_1_2), (vi r332.2.Expr.Op), (vi r332.2.Expr.Value), (.slice ar332_1_2 r332.2.Expr.Kids.length nr332_1_2)] hw417 (WJ _) (fun b425 w426 hs427 => ?_)
             have hr429 : AC Av 56 F27 (some ⟨b425, 0, none⟩) 1 [({ When := r299.2.Expr, Then := r332.2.Expr } : Clause)] (some b425, .cells ([(vi r299.2.Expr.Op), (vi r299.2.Expr.Value), (.slice ar299_1_2 r299.2.Expr.Kids.length nr299_1_2), (vi r332.2.Expr.Op), (vi r332.2.Expr.Value), (.slice ar332_1_2 r332.2.Expr.Kids.length nr332_1_2)] : List Value).toArray 56 (0, 0)) := W0 ⟨⟨ar299_1_2, nr299_1_2, ar332_1_2, nr332_1_2, rfl, hbr299_1_2, (WL hsr299_1_2 (((((le326.trans le336).trans le361).trans le368).trans le403).trans le413)), hbr332_1_2, (WL hsr332_1_2 (((le361.trans le368).trans le403).trans le413))⟩, rfl⟩ (by simp)
             refine D1 10 ?_
             obtain ⟨r430, hap431, h432⟩ := bind_some hj423
             refine WC LX hs427 (hr1_0.mono (((((((((le46.trans le269).trans le293).trans le303).trans le326).trans le336).trans le361).trans le368).trans le403).trans le413)) (hs427.rd0 hr429) hap431 (WJ _) (fun a433 n434 e435 w436 hs437 hr438 => ?_)
             refine Dv [11] ?_
             refine D1 12 ?_
             refine VG #[(.slice a433 r430.length n434), (.slice a1_1 x1.Multipliers.length n1_1), (.slice a1_2 x1.Penalties.length n1_2), (.slice a1_3 x1.Repeats.length n1_3)] hs437 (WJ _) (fun w439 hs440 => ?_)
             obtain rfl := Ac h432
             exact WY (by kernel_rfl) ⟨F27, a433, n434, e435, hs440.dr0.dr1.dr1, (WJ _), fI, hr438⟩
            ·rintro f w418 ⟨F28, aj421_0, nj421_0, ej421_0, hs419, le420, ⟨_, rfl⟩, hrj421_0⟩
             obtain rfl := Ac h424
             exact ReP [] hs419 ((((((((((le46.trans le269).trans le293).trans le303).trans le326).trans le336).trans le361).trans le368).trans le403).trans le413).trans le420) ⟨ar332_0_0, nr332_0_0, aj421_0, nj421_0, ej421_0, a1_1, n1_1, e1_1, a1_2, n1_2, e1_2, a1_3, n1_3, e1_3, rfl, rfl, hbr332_0_0, (WL hsr332_0_0 ((((le361.trans le368).trans le403).trans le413).trans le420)), hrj421_0, (hr1_1.mono ((((((((((le46.trans le269).trans le293).trans le303).trans le326).trans le336).trans le361).trans le368).trans le403).trans le413).trans le420)), (hr1_2.mono ((((((((((le46.trans le269).trans le293).trans le303).trans le326).trans le336).trans le361).trans le368).trans le403).trans le413).trans le420)), (hr1_3.mono ((((((((((le46.trans le269).trans le293).trans le303).trans le326).trans le336).trans le361).trans le368).trans le403).trans le413).trans le420))⟩
           ·rintro b441 F29 w442 rfl hs443 le444
            have h445 := Bw h408
            refine Al ?_
            have hs447 := hs443.dr0.dr0.dr0.dr0.dr0
            obtain rfl := Ac h445
            exact CW hs447.dr0.dr0 (((((((((le46.trans le269).trans le293).trans le303).trans le326).trans le336).trans le361).trans le368).trans le403).trans le444)
          ·rintro b448 F30 w449 rfl hs450 le451
           have h452 := Bw h398
           refine Al ?_
           have hs454 := hs450.dr0.dr0.dr0.dr0.dr0
           obtain rfl := Ac h452
           exact CW hs454.dr0.dr0 ((((((((le46.trans le269).trans le293).trans le303).trans le326).trans le336).trans le361).trans le368).trans le451)
         ·rintro c f w456 ⟨hd459, b455, F31, rfl, rfl, hs457, le458⟩
          have h460 := Bw h376
          refine Al ?_
          obtain rfl := Ac h460
          exact ⟨hd459, .inr ⟨_, F31, rfl, rfl, hs457, (((((((le46.trans le269).trans le293).trans le303).trans le326).trans le336).trans le361).trans le458)⟩⟩
        ·rintro b461 F32 w462 rfl hs463 le464
         have h465 := Bw h356
         refine Al ?_
         have hs467 := hs463.dr0.dr0.dr0.dr0.dr0
         obtain rfl := Ac h465
         exact ⟨h256, .inr ⟨_, F32, rfl, rfl, hs467.dr0.dr0.dr0.dr0, ((((((le46.trans le269).trans le293).trans le303).trans le326).trans le336).trans le464)⟩⟩
       ·rintro b468 F33 w469 rfl hs470 le471
        have h472 := Bw h331
        refine Al ?_
        have hs474 := hs470.dr0.dr0.dr0.dr0.dr0
        obtain rfl := Ac h472
        exact ⟨h256, .inr ⟨_, F33, rfl, rfl, hs474.dr0.dr0.dr0, (((((le46.trans le269).trans le293).trans le303).trans le326).trans le471)⟩⟩
      ·rintro b475 F34 w476 rfl hs477 le478
       have h479 := Bw h321
       refine Al ?_
       have hs481 := hs477.dr0.dr0.dr0.dr0.dr0
       obtain rfl := Ac h479
       exact ⟨h256, .inr ⟨_, F34, rfl, rfl, hs481.dr0.dr0.dr0, ((((le46.trans le269).trans le293).trans le303).trans le478)⟩⟩
     ·rintro b482 F35 w483 rfl hs484 le485
      have h486 := Bw h298
      refine Al ?_
      have hs488 := hs484.dr0.dr0.dr0.dr0.dr0
      obtain rfl := Ac h486
      exact ⟨h256, .inr ⟨_, F35, rfl, rfl, hs488.dr0.dr0, (((le46.trans le269).trans le293).trans le485)⟩⟩
    ·rintro b489 F36 w490 rfl hs491 le492
     have h493 := Bw h288
     refine Al ?_
     have hs495 := hs491.dr0.dr0.dr0.dr0.dr0
     obtain rfl := Ac h493
     exact ⟨h256, .inr ⟨_, F36, rfl, rfl, hs495.dr0.dr0, ((le46.trans le269).trans le492)⟩⟩
  ·refine Sp h262 (fun hb496 h497 => ?_) (fun hb496 h498 => ?_)
   ·refine V 63 168 (HP (mt := 167) (k := 9) (vt := 166) (m := (.tmp 60)) (x := (.tmp 62)) rfl rfl (by kernel_rfl) (by kernel_rfl) (hs259.ownAt' (k := 0) rfl) hp254 (R9 hb260 hb496)) ?_
    refine Vs 5 ?_
    refine Nss ?_
    refine Sq (Rg [0, 1, 2, 3, 4, 5, 6, 7, 8] ?_)
    refine Vs 3 ?_
    refine Vg 69 95 2 false 68 rfl (mv 0 (pt bp0 0) h257) ?_
    refine Vg 70 0 2 false 68 rfl (fa 97 4 2 2 1 b35 0 2 h258) ?_
    refine Vg 71 9 2 false 68 rfl (ld 9 70 b35 2 false 1 (.string ⟨(x21.text_).toArray⟩) hs259.at2) ?_
    have hs499 := hs259.pk7.pk7.pk7.pk7.pk7
    obtain ⟨r500, hr501, h502⟩ := bind_some h497
    refine RWP.callB (dst := (some 72)) (ty := 4) (g := (some (2, false))) (by kernel_rfl) (MN (d := 68) (by kernel_rfl) rfl rfl) (f0 := (.func 80)) (aos := #[(.tmp 69), (.tmp 71)]) (ats := #[95, 9]) (fid := 80) (first := #[]) (cap := #[]) (args := [(pt bp0 0), (.string ⟨(x21.text_).toArray⟩)]) rfl AO rfl (AU N bp0 r41.1 ar41_0_0 nr41_0_0 hbr41_0_0 hsr41_0_0 x21.text_ hs499.pk7.pk6.pk7 _ hr501) ?_
    rintro _ F37 w503 _ hs504 le505 ⟨ar500_0_0, nr500_0_0, rfl, rfl, hbr500_0_0, hsr500_0_0⟩
    refine Vg 73 4 2 false 68 rfl (II (t := 4) (x := (.tmp 72)) (a := r500.2) rfl) ?_
    refine Pk0 (rfl : false = false) ?_
    refine Nt ?_
    refine Cd h502 (fun hb507 h508 => ?_) (fun hb507 h509 => ?_)
    ·refine Rg [0, 1, 2, 3] ?_
     refine V 75 95 (mv 0 (pt bp0 0) h257) ?_
     refine V 76 0 (fa 97 4 1 1 1 b35 0 1 h258) ?_
     refine Ld hs504.at2 ?_
     obtain ⟨r510, hr511, h512⟩ := bind_some h508
     refine CP AQ (AW N bp0 r500.1 ar500_0_0 nr500_0_0 hbr500_0_0 hsr500_0_0 60 x21.at_ hs504 _ hr511) ?_ ?_
     ·rintro _ _ _ _ _ rfl _ _ _; cases hr511
     ·rintro b515 F39 w516 rfl hs517 le518
      have h519 := Bw h512
      refine Al ?_
      have hs521 := hs517.dr0.dr0.dr0.dr0.dr0
      obtain rfl := Ac h519
      exact ⟨h256, .inr ⟨_, F39, rfl, rfl, hs521.dr0.dr0, ((le46.trans le505).trans le518)⟩⟩
    ·refine Sc ?_
     refine Ad ?_
     refine Sq (Rg [0, 1] ?_)
     refine V 79 95 (mv 0 (pt bp0 0) h257) ?_
     obtain ⟨r522, hr523, h524⟩ := bind_some h509
     refine CP A3 (A4 N bp0 r500.1 ar500_0_0 nr500_0_0 hbr500_0_0 hsr500_0_0 (([58] : W4)) hs504 _ hr523) ?_ ?_
     ·rintro r525 _ F40 w527 _ rfl hs528 le529 ⟨ar525_0_0, nr525_0_0, rfl, rfl, hbr525_0_0, hsr525_0_0⟩
      have h531 := BQ h524
      refine Nss (Rg [0, 1, 2, 3] ?_)
      refine V 81 95 (mv 0 (pt bp0 0) h257) ?_
      obtain ⟨r532, hr533, h534⟩ := bind_some h531
      refine CP Bm (Br N (hG.mono ((le46.trans le505).trans le529)) bp0 r525 ar525_0_0 nr525_0_0 hbr525_0_0 hsr525_0_0 hs528 _ hr533) ?_ ?_
      ·rintro r535 _ F41 w537 _ rfl hs538 le539 ⟨ar535_0_0, nr535_0_0, ar535_1_2, nr535_1_2, rfl, rfl, hbr535_0_0, hsr535_0_0, hbr535_1_2, hsr535_1_2⟩
       have h541 := BQ h534
       refine Al' 113 #[(vi 0), (vi 0), (.slice none ([] : List Expr).length 0), (vi 0)] hs538 (fun b542 w543 hs544 => ?_)
       refine St0 (Am r535.2 ar535_1_2 nr535_1_2) hs544 (fun w545 hs546 => ?_)
       refine Nss (Rg [0, 1] ?_)
       refine V 83 95 (mv 0 (pt bp0 0) h257) ?_
       have hs553 : HS wb Fb w545 F41 (e251 :: (sb b35 (A7 x21) 97) :: (sb bp1 (AP x1 a1_0 n1_0 a1_1 n1_1 a1_2 n1_2 a1_3 n1_3) 26) :: e1_0 :: e1_1 :: e1_2 :: e1_3 :: (sb b542 (Am r535.2 ar535_1_2 nr535_1_2) 113) :: (sb bp0 (Af r535.1 ar535_0_0 nr535_0_0) 100) :: Lf) := hs546.pm [2, 3, 4, 5, 6, 7, 8, 0, 1]
       have hs554 : HS wb Fb w545 F41 ((sb bp0 (Af r535.1 ar535_0_0 nr535_0_0) 100) :: (sb b542 (Am r535.2 ar535_1_2 nr535_1_2) 113) :: e251 :: (sb b35 (A7 x21) 97) :: (sb bp1 (AP x1 a1_0 n1_0 a1_1 n1_1 a1_2 n1_2 a1_3 n1_3) 26) :: e1_0 :: e1_1 :: e1_2 :: e1_3 :: Lf) := hs553.pk7.pick (k := 8) rfl
       obtain ⟨r555, hr556, h557⟩ := bind_some h541
       refine CP A3 (A4 N bp0 r535.1 ar535_0_0 nr535_0_0 hbr535_0_0 hsr535_0_0 (([61, 62] : W4)) hs554 _ hr556) ?_ ?_
       ·rintro r558 _ F42 w560 _ rfl hs561 le562 ⟨ar558_0_0, nr558_0_0, rfl, rfl, hbr558_0_0, hsr558_0_0⟩
        have h564 := BQ h557
        refine Nss (Rg [0, 1, 2, 3] ?_)
        refine V 85 95 (mv 0 (pt bp0 0) h257) ?_
        obtain ⟨r565, hr566, h567⟩ := bind_some h564
        refine CP Bm (Br N (hG.mono ((((le46.trans le505).trans le529).trans le539).trans le562)) bp0 r558 ar558_0_0 nr558_0_0 hbr558_0_0 hsr558_0_0 hs561 _ hr566) ?_ ?_
        ·rintro r568 _ F43 w570 _ rfl hs571 le572 ⟨ar568_0_0, nr568_0_0, ar568_1_2, nr568_1_2, rfl, rfl, hbr568_0_0, hsr568_0_0, hbr568_1_2, hsr568_1_2⟩
         have h574 := BQ h567
         refine Al' 113 #[(vi 0), (vi 0), (.slice none ([] : List Expr).length 0), (vi 0)] hs571 (fun b575 w576 hs577 => ?_)
         refine St0 (Am r568.2 ar568_1_2 nr568_1_2) hs577 (fun w578 hs579 => ?_)
         refine Nss (Rg [0, 1] ?_)
         refine V 87 95 (mv 0 (pt bp0 0) h257) ?_
         have hs589 : HS wb Fb w578 F43 ((sb bp0 (Af r568.1 ar568_0_0 nr568_0_0) 100) :: (sb b575 (Am r568.2 ar568_1_2 nr568_1_2) 113) :: (sb b542 (Am r535.2 ar535_1_2 nr535_1_2) 113) :: e251 :: (sb b35 (A7 x21) 97) :: (sb bp1 (AP x1 a1_0 n1_0 a1_1 n1_1 a1_2 n1_2 a1_3 n1_3) 26) :: e1_0 :: e1_1 :: e1_2 :: e1_3 :: Lf) := hs579.pm [1, 0, 2, 3, 4, 5, 6, 7, 8, 9]
         obtain ⟨r590, hr591, h592⟩ := bind_some h574
         refine CP CU (C6 N bp0 r568.1 ar568_0_0 nr568_0_0 hbr568_0_0 hsr568_0_0 hs589 _ hr591) ?_ ?_
         ·rintro r593 _ F44 w595 _ rfl hs596 le597 ⟨rfl, rfl⟩
          have h599 := BQ h592
          refine Nss ?_
          obtain ⟨j605, hj611, h612⟩ := bind_some h599
          refine RDP 7 7 [(sb bp0 (Af r568.1 ar568_0_0 nr568_0_0) 100), (sb b575 (Am r568.2 ar568_1_2 nr568_1_2) 113), (sb b542 (Am r535.2 ar535_1_2 nr535_1_2) 113), e251, (sb b35 (A7 x21) 97), (sb bp1 (AP x1 a1_0 n1_0 a1_1 n1_1 a1_2 n1_2 a1_3 n1_3) 26), e1_0, e1_1, e1_2, e1_3] [] hs596 (fun c d w => d = [] /\ ∃ (b : Ag) (Fp : Mem), j605 = .inl b /\ c = [{ v := (.iface 158 (.agg (A2 b))), recovered := false }] /\ HS wb Fb w Fp Lf /\ WI F44 Fp) (fun f w => ∃ (J613 : Unit), j605 = .inr J613 /\ ∃ (F45 : Mem), HS wb Fb w F45 ((sb bp0 (Af r568.1 ar568_0_0 nr568_0_0) 100) :: (sb b575 (Am r568.2 ar568_1_2 nr568_1_2) 113) :: (sb b542 (Am r535.2 ar535_1_2 nr535_1_2) 113) :: (sb bp1 (AP x1 a1_0 n1_0 a1_1 n1_1 a1_2 n1_2 a1_3 n1_3) 26) :: e1_0 :: e1_1 :: e1_2 :: e1_3 :: Lf) /\ WI F44 F45 /\ FI f [] [(0, (pt bp0 0)), (7, (pt bp1 1)), (9, (pt b542 0)), (10, (pt b575 0))]) (fun wd600 hw601 => ?_) ?_ ?_
          ·refine Dt 0 89 95 _ (fun _ hq => mv 0 (pt bp0 0) h257) ?_
           refine Dv [1, 2] ?_
           refine Dl 3 (fun _ hq => (hq.1.2 5 _ _ rfl)) ?_
           refine Dt 4 93 0 (pt b35 1) (fun _ hq => fa 97 4 1 1 1 b35 0 1 h258) ?_
           refine Dl 5 (fun _ hq => (hq.1.2 4 _ _ rfl)) ?_
           refine D1 6 ?_
           obtain ⟨r614, hr615, h616⟩ := bind_some hj611
           refine DCP C9 (Dq N bp0 r568.1 ar568_0_0 nr568_0_0 hbr568_0_0 (WL hsr568_0_0 le597) x1.Multipliers a1_1 n1_1 x21.at_ hw601 _ hr615) ?_ ?_
           ·rintro r617 _ F46 w619 _ rfl hs620 le621 ⟨rfl, rfl⟩
            have h623 := BQ h616
            refine ⟨Ck hs620 le621 (by simp) (zdT (by kernel_rfl)), ?_⟩
            obtain rfl := Ac h623
            exact WY (by kernel_rfl) ⟨_, rfl, F46, hs620.dr3.dr3, le621, (fJ ⟨h257, rfl, rfl, rfl, trivial⟩ (hd := h256))⟩
           ·rintro b624 F47 w625 rfl hs626 le627
            have h628 := Bw h616
            obtain rfl := Ac h628
            have hs630 := hs626.dr0.dr0.dr0.dr0.dr0
            exact ⟨h256, _, _, rfl, rfl, hs630.dr0.dr0.dr0.dr0, le627⟩
          ·rintro f w602 ⟨J613, rfl, F45, hs603, le604, ⟨_, rfl⟩⟩
           have h631 := BQ h612
           refine Ad ?_
           refine Sq (Rg [0, 1, 2] ?_)
           refine Vs 1 ?_
           refine Ld hs603.at2 ?_
           obtain ⟨r632, hr633, h634⟩ := bind_some h631
           refine CP Bq (Bx N bp0 r568.1 ar568_0_0 nr568_0_0 hbr568_0_0 (WL hsr568_0_0 (le597.trans le604)) r535.2 ar535_1_2 nr535_1_2 hbr535_1_2 (WL hsr535_1_2 (((le562.trans le572).trans le597).trans le604)) 2 hs603 _ hr633) ?_ ?_
           ·rintro r635 _ F48 w637 _ rfl hs638 le639 ⟨rfl, rfl⟩
            have h641 := BQ h634
            refine Nss (Rg [0, 1, 2] ?_)
            refine Vs 1 ?_
            refine Ld hs638.at1 ?_
            obtain ⟨r642, hr643, h644⟩ := bind_some h641
            refine CP Bq (Bx N bp0 r568.1 ar568_0_0 nr568_0_0 hbr568_0_0 (WL hsr568_0_0 ((le597.trans le604).trans le639)) r568.2 ar568_1_2 nr568_1_2 hbr568_1_2 (WL hsr568_1_2 ((le597.trans le604).trans le639)) 1 hs638 _ hr643) ?_ ?_
            ·rintro r645 _ F49 w647 _ rfl hs648 le649 ⟨rfl, rfl⟩
             have h651 := BQ h644
             refine Nt ?_
             obtain ⟨j657, hj659, h660⟩ := bind_some h651
             refine RD 12 13 [(sb bp0 (Af r568.1 ar568_0_0 nr568_0_0) 100), (sb b575 (Am r568.2 ar568_1_2 nr568_1_2) 113), (sb b542 (Am r535.2 ar535_1_2 nr535_1_2) 113), e1_0, e1_2, e1_3] [(sb bp1 (AP x1 a1_0 n1_0 a1_1 n1_1 a1_2 n1_2 a1_3 n1_3) 26)] hs648 (fun f w => ∃ (F50 : Mem) (aj657_0 : W5) (nj657_0 : Nat) (ej657_0 : Option Nat × Obj), HS wb Fb w F50 ((sb bp0 (Af r568.1 ar568_0_0 nr568_0_0) 100) :: (sb bp1 #[(.slice a1_0 x1.Points.length n1_0), (.slice aj657_0 j657.length nj657_0), (.slice a1_2 x1.Penalties.length n1_2), (.slice a1_3 x1.Repeats.length n1_3)] 26) :: e1_0 :: ej657_0 :: e1_2 :: e1_3 :: Lf) /\ WI F49 F50 /\ FI f [] [] /\ AC Av 56 F50 aj657_0 nj657_0 j657 ej657_0) (fun wd652 hw653 => ?_) ?_
             ·refine Dv [0, 1, 2] ?_
              refine Dl 3 (fun _ hq => ((hq.2 rfl).2 0 _ _ rfl)) ?_
              refine Dv [4] ?_
              refine Dl 5 (fun _ hq => (hq.1.2 2 _ _ rfl)) ?_
              refine Dv [6] ?_
              refine Dl 7 (fun _ hq => (hq.1.2 1 _ _ rfl)) ?_
              refine Dv [8] ?_
              refine D1 9 ?_
              refine DBs 56 [(vi r535.2.Expr.Op), (vi r535.2.Expr.Value), (.slice ar535_1_2 r535.2.Expr.Kids.length nr535_1_2), (vi r568.2.Expr.Op), (vi r568.2.Expr.Value), (.slice ar568_1_2 r568.2.Expr.Kids.length nr568_1_2)] hw653 (WJ _) (fun b661 w662 hs663 => ?_)
              have hr665 : AC Av 56 F49 (some ⟨b661, 0, none⟩) 1 [({ When := r535.2.Expr, Then := r568.2.Expr } : Clause)] (some b661, .cells ([(vi r535.2.Expr.Op), (vi r535.2.Expr.Value), (.slice ar535_1_2 r535.2.Expr.Kids.length nr535_1_2), (vi r568.2.Expr.Op), (vi r568.2.Expr.Value), (.slice ar568_1_2 r568.2.Expr.Kids.length nr568_1_2)] : List Value).toArray 56 (0, 0)) := W0 ⟨⟨ar535_1_2, nr535_1_2, ar568_1_2, nr568_1_2, rfl, hbr535_1_2, (WL hsr535_1_2 (((((le562.trans le572).trans le597).trans le604).trans le639).trans le649)), hbr568_1_2, (WL hsr568_1_2 (((le597.trans le604).trans le639).trans le649))⟩, rfl⟩ (by simp)
              refine D1 10 ?_
              obtain ⟨r666, hap667, h668⟩ := bind_some hj659
              refine WB LX hs663 (hr1_1.mono (((((((((le46.trans le505).trans le529).trans le539).trans le562).trans le572).trans le597).trans le604).trans le639).trans le649)) (hs663.rd0 hr665) hap667 (WJ _) (fun a669 n670 e671 w672 hs673 hr674 => ?_)
              refine Dv [11] ?_
              refine D1 12 ?_
              refine VG #[(.slice a1_0 x1.Points.length n1_0), (.slice a669 r666.length n670), (.slice a1_2 x1.Penalties.length n1_2), (.slice a1_3 x1.Repeats.length n1_3)] hs673 (WJ _) (fun w675 hs676 => ?_)
              obtain rfl := Ac h668
              exact WY (by kernel_rfl) ⟨F49, a669, n670, e671, hs676.dr0.dr1.dr1, (WJ _), fI, hr674⟩
             ·rintro f w654 ⟨F50, aj657_0, nj657_0, ej657_0, hs655, le656, ⟨_, rfl⟩, hrj657_0⟩
              obtain rfl := Ac h660
              exact ReP [] hs655 ((((((((((le46.trans le505).trans le529).trans le539).trans le562).trans le572).trans le597).trans le604).trans le639).trans le649).trans le656) ⟨ar568_0_0, nr568_0_0, a1_0, n1_0, e1_0, aj657_0, nj657_0, ej657_0, a1_2, n1_2, e1_2, a1_3, n1_3, e1_3, rfl, rfl, hbr568_0_0, (WL hsr568_0_0 ((((le597.trans le604).trans le639).trans le649).trans le656)), (hr1_0.mono ((((((((((le46.trans le505).trans le529).trans le539).trans le562).trans le572).trans le597).trans le604).trans le639).trans le649).trans le656)), hrj657_0, (hr1_2.mono ((((((((((le46.trans le505).trans le529).trans le539).trans le562).trans le572).trans le597).trans le604).trans le639).trans le649).trans le656)), (hr1_3.mono ((((((((((le46.trans le505).trans le529).trans le539).trans le562).trans le572).trans le597).trans le604).trans le639).trans le649).trans le656))⟩
            ·rintro b677 F51 w678 rfl hs679 le680
             have h681 := Bw h644
             refine Al ?_
             have hs683 := hs679.dr0.dr0.dr0.dr0.dr0
             obtain rfl := Ac h681
             exact CW hs683.dr0.dr0 (((((((((le46.trans le505).trans le529).trans le539).trans le562).trans le572).trans le597).trans le604).trans le639).trans le680)
           ·rintro b684 F52 w685 rfl hs686 le687
            have h688 := Bw h634
            refine Al ?_
            have hs690 := hs686.dr0.dr0.dr0.dr0.dr0
            obtain rfl := Ac h688
            exact CW hs690.dr0.dr0 ((((((((le46.trans le505).trans le529).trans le539).trans le562).trans le572).trans le597).trans le604).trans le687)
          ·rintro c f w692 ⟨hd695, b691, F53, rfl, rfl, hs693, le694⟩
           have h696 := Bw h612
           refine Al ?_
           obtain rfl := Ac h696
           exact ⟨hd695, .inr ⟨_, F53, rfl, rfl, hs693, (((((((le46.trans le505).trans le529).trans le539).trans le562).trans le572).trans le597).trans le694)⟩⟩
         ·rintro b697 F54 w698 rfl hs699 le700
          have h701 := Bw h592
          refine Al ?_
          have hs703 := hs699.dr0.dr0.dr0.dr0.dr0
          obtain rfl := Ac h701
          exact ⟨h256, .inr ⟨_, F54, rfl, rfl, hs703.dr0.dr0.dr0.dr0, ((((((le46.trans le505).trans le529).trans le539).trans le562).trans le572).trans le700)⟩⟩
        ·rintro b704 F55 w705 rfl hs706 le707
         have h708 := Bw h567
         refine Al ?_
         have hs710 := hs706.dr0.dr0.dr0.dr0.dr0
         obtain rfl := Ac h708
         exact ⟨h256, .inr ⟨_, F55, rfl, rfl, hs710.dr0.dr0.dr0, (((((le46.trans le505).trans le529).trans le539).trans le562).trans le707)⟩⟩
       ·rintro b711 F56 w712 rfl hs713 le714
        have h715 := Bw h557
        refine Al ?_
        have hs717 := hs713.dr0.dr0.dr0.dr0.dr0
        obtain rfl := Ac h715
        exact ⟨h256, .inr ⟨_, F56, rfl, rfl, hs717.dr0.dr0.dr0, ((((le46.trans le505).trans le529).trans le539).trans le714)⟩⟩
      ·rintro b718 F57 w719 rfl hs720 le721
       have h722 := Bw h534
       refine Al ?_
       have hs724 := hs720.dr0.dr0.dr0.dr0.dr0
       obtain rfl := Ac h722
       exact ⟨h256, .inr ⟨_, F57, rfl, rfl, hs724.dr0.dr0, (((le46.trans le505).trans le529).trans le721)⟩⟩
     ·rintro b725 F58 w726 rfl hs727 le728
      have h729 := Bw h524
      refine Al ?_
      have hs731 := hs727.dr0.dr0.dr0.dr0.dr0
      obtain rfl := Ac h729
      exact ⟨h256, .inr ⟨_, F58, rfl, rfl, hs731.dr0.dr0, ((le46.trans le505).trans le728)⟩⟩
   ·refine Sp h498 (fun hb732 h733 => ?_) (fun hb732 h734 => ?_)
    ·refine V 63 168 (HP (mt := 167) (k := 9) (vt := 166) (m := (.tmp 60)) (x := (.tmp 62)) rfl rfl (by kernel_rfl) (by kernel_rfl) (hs259.ownAt' (k := 0) rfl) hp254 (R8 hb260 hb496 hb732)) ?_
     refine Vs 5 ?_
     refine Nss ?_
     refine Sq (Rg [0, 1, 2, 3, 4, 5, 6, 7, 8] ?_)
     refine Vs 3 ?_
     refine Vg 69 95 2 false 68 rfl (mv 0 (pt bp0 0) h257) ?_
     refine Vg 70 0 2 false 68 rfl (fa 97 4 2 2 1 b35 0 2 h258) ?_
     refine Vg 71 9 2 false 68 rfl (ld 9 70 b35 2 false 1 (.string ⟨(x21.text_).toArray⟩) hs259.at2) ?_
     have hs735 := hs259.pk7.pk7.pk7.pk7.pk7
     obtain ⟨r736, hr737, h738⟩ := bind_some h733
     refine RWP.callB (dst := (some 72)) (ty := 4) (g := (some (2, false))) (by kernel_rfl) (MN (d := 68) (by kernel_rfl) rfl rfl) (f0 := (.func 80)) (aos := #[(.tmp 69), (.tmp 71)]) (ats := #[95, 9]) (fid := 80) (first := #[]) (cap := #[]) (args := [(pt bp0 0), (.string ⟨(x21.text_).toArray⟩)]) rfl AO rfl (AU N bp0 r41.1 ar41_0_0 nr41_0_0 hbr41_0_0 hsr41_0_0 x21.text_ hs735.pk7.pk6.pk7 _ hr737) ?_
     rintro _ F59 w739 _ hs740 le741 ⟨ar736_0_0, nr736_0_0, rfl, rfl, hbr736_0_0, hsr736_0_0⟩
     refine Vg 73 4 2 false 68 rfl (II (t := 4) (x := (.tmp 72)) (a := r736.2) rfl) ?_
     refine Pk0 (rfl : false = false) ?_
     refine Nt ?_
     refine Cd h738 (fun hb743 h744 => ?_) (fun hb743 h745 => ?_)
     ·refine Rg [0, 1, 2, 3] ?_
      refine V 75 95 (mv 0 (pt bp0 0) h257) ?_
      refine V 76 0 (fa 97 4 1 1 1 b35 0 1 h258) ?_
      refine Ld hs740.at2 ?_
      obtain ⟨r746, hr747, h748⟩ := bind_some h744
      refine CP AQ (AW N bp0 r736.1 ar736_0_0 nr736_0_0 hbr736_0_0 hsr736_0_0 60 x21.at_ hs740 _ hr747) ?_ ?_
      ·rintro _ _ _ _ _ rfl _ _ _; cases hr747
      ·rintro b751 F61 w752 rfl hs753 le754
       have h755 := Bw h748
       refine Al ?_
       have hs757 := hs753.dr0.dr0.dr0.dr0.dr0
       obtain rfl := Ac h755
       exact ⟨h256, .inr ⟨_, F61, rfl, rfl, hs757.dr0.dr0, ((le46.trans le741).trans le754)⟩⟩
     ·refine Sc ?_
      refine Ad ?_
      refine Sq (Rg [0, 1] ?_)
      refine V 79 95 (mv 0 (pt bp0 0) h257) ?_
      obtain ⟨r758, hr759, h760⟩ := bind_some h745
      refine CP A3 (A4 N bp0 r736.1 ar736_0_0 nr736_0_0 hbr736_0_0 hsr736_0_0 (([58] : W4)) hs740 _ hr759) ?_ ?_
      ·rintro r761 _ F62 w763 _ rfl hs764 le765 ⟨ar761_0_0, nr761_0_0, rfl, rfl, hbr761_0_0, hsr761_0_0⟩
       have h767 := BQ h760
       refine Nss (Rg [0, 1, 2, 3] ?_)
       refine V 81 95 (mv 0 (pt bp0 0) h257) ?_
       obtain ⟨r768, hr769, h770⟩ := bind_some h767
       refine CP Bm (Br N (hG.mono ((le46.trans le741).trans le765)) bp0 r761 ar761_0_0 nr761_0_0 hbr761_0_0 hsr761_0_0 hs764 _ hr769) ?_ ?_
       ·rintro r771 _ F63 w773 _ rfl hs774 le775 ⟨ar771_0_0, nr771_0_0, ar771_1_2, nr771_1_2, rfl, rfl, hbr771_0_0, hsr771_0_0, hbr771_1_2, hsr771_1_2⟩
        have h777 := BQ h770
        refine Al' 113 #[(vi 0), (vi 0), (.slice none ([] : List Expr).length 0), (vi 0)] hs774 (fun b778 w779 hs780 => ?_)
        refine St0 (Am r771.2 ar771_1_2 nr771_1_2) hs780 (fun w781 hs782 => ?_)
        refine Nss (Rg [0, 1] ?_)
        refine V 83 95 (mv 0 (pt bp0 0) h257) ?_
        have hs789 : HS wb Fb w781 F63 (e251 :: (sb b35 (A7 x21) 97) :: (sb bp1 (AP x1 a1_0 n1_0 a1_1 n1_1 a1_2 n1_2 a1_3 n1_3) 26) :: e1_0 :: e1_1 :: e1_2 :: e1_3 :: (sb b778 (Am r771.2 ar771_1_2 nr771_1_2) 113) :: (sb bp0 (Af r771.1 ar771_0_0 nr771_0_0) 100) :: Lf) := hs782.pm [2, 3, 4, 5, 6, 7, 8, 0, 1]
        have hs790 : HS wb Fb w781 F63 ((sb bp0 (Af r771.1 ar771_0_0 nr771_0_0) 100) :: (sb b778 (Am r771.2 ar771_1_2 nr771_1_2) 113) :: e251 :: (sb b35 (A7 x21) 97) :: (sb bp1 (AP x1 a1_0 n1_0 a1_1 n1_1 a1_2 n1_2 a1_3 n1_3) 26) :: e1_0 :: e1_1 :: e1_2 :: e1_3 :: Lf) := hs789.pk7.pick (k := 8) rfl
        obtain ⟨r791, hr792, h793⟩ := bind_some h777
        refine CP A3 (A4 N bp0 r771.1 ar771_0_0 nr771_0_0 hbr771_0_0 hsr771_0_0 (([61, 62] : W4)) hs790 _ hr792) ?_ ?_
        ·rintro r794 _ F64 w796 _ rfl hs797 le798 ⟨ar794_0_0, nr794_0_0, rfl, rfl, hbr794_0_0, hsr794_0_0⟩
         have h800 := BQ h793
         refine Nss (Rg [0, 1, 2, 3] ?_)
         refine V 85 95 (mv 0 (pt bp0 0) h257) ?_
         obtain ⟨r801, hr802, h803⟩ := bind_some h800
         refine CP Bm (Br N (hG.mono ((((le46.trans le741).trans le765).trans le775).trans le798)) bp0 r794 ar794_0_0 nr794_0_0 hbr794_0_0 hsr794_0_0 hs797 _ hr802) ?_ ?_
         ·rintro r804 _ F65 w806 _ rfl hs807 le808 ⟨ar804_0_0, nr804_0_0, ar804_1_2, nr804_1_2, rfl, rfl, hbr804_0_0, hsr804_0_0, hbr804_1_2, hsr804_1_2⟩
          have h810 := BQ h803
          refine Al' 113 #[(vi 0), (vi 0), (.slice none ([] : List Expr).length 0), (vi 0)] hs807 (fun b811 w812 hs813 => ?_)
          refine St0 (Am r804.2 ar804_1_2 nr804_1_2) hs813 (fun w814 hs815 => ?_)
          refine Nss (Rg [0, 1] ?_)
          refine V 87 95 (mv 0 (pt bp0 0) h257) ?_
          have hs825 : HS wb Fb w814 F65 ((sb bp0 (Af r804.1 ar804_0_0 nr804_0_0) 100) :: (sb b811 (Am r804.2 ar804_1_2 nr804_1_2) 113) :: (sb b778 (Am r771.2 ar771_1_2 nr771_1_2) 113) :: e251 :: (sb b35 (A7 x21) 97) :: (sb bp1 (AP x1 a1_0 n1_0 a1_1 n1_1 a1_2 n1_2 a1_3 n1_3) 26) :: e1_0 :: e1_1 :: e1_2 :: e1_3 :: Lf) := hs815.pm [1, 0, 2, 3, 4, 5, 6, 7, 8, 9]
          obtain ⟨r826, hr827, h828⟩ := bind_some h810
          refine CP CU (C6 N bp0 r804.1 ar804_0_0 nr804_0_0 hbr804_0_0 hsr804_0_0 hs825 _ hr827) ?_ ?_
          ·rintro r829 _ F66 w831 _ rfl hs832 le833 ⟨rfl, rfl⟩
           have h835 := BQ h828
           refine Nss ?_
           obtain ⟨j841, hj847, h848⟩ := bind_some h835
           refine RDP 7 7 [(sb bp0 (Af r804.1 ar804_0_0 nr804_0_0) 100), (sb b811 (Am r804.2 ar804_1_2 nr804_1_2) 113), (sb b778 (Am r771.2 ar771_1_2 nr771_1_2) 113), e251, (sb b35 (A7 x21) 97), (sb bp1 (AP x1 a1_0 n1_0 a1_1 n1_1 a1_2 n1_2 a1_3 n1_3) 26), e1_0, e1_1, e1_2, e1_3] [] hs832 (fun c d w => d = [] /\ ∃ (b : Ag) (Fp : Mem), j841 = .inl b /\ c = [{ v := (.iface 158 (.agg (A2 b))), recovered := false }] /\ HS wb Fb w Fp Lf /\ WI F66 Fp) (fun f w => ∃ (J849 : Unit), j841 = .inr J849 /\ ∃ (F67 : Mem), HS wb Fb w F67 ((sb bp0 (Af r804.1 ar804_0_0 nr804_0_0) 100) :: (sb b811 (Am r804.2 ar804_1_2 nr804_1_2) 113) :: (sb b778 (Am r771.2 ar771_1_2 nr771_1_2) 113) :: (sb bp1 (AP x1 a1_0 n1_0 a1_1 n1_1 a1_2 n1_2 a1_3 n1_3) 26) :: e1_0 :: e1_1 :: e1_2 :: e1_3 :: Lf) /\ WI F66 F67 /\ FI f [] [(0, (pt bp0 0)), (7, (pt bp1 2)), (9, (pt b778 0)), (10, (pt b811 0))]) (fun wd836 hw837 => ?_) ?_ ?_
           ·refine Dt 0 89 95 _ (fun _ hq => mv 0 (pt bp0 0) h257) ?_
            refine Dv [1, 2] ?_
            refine Dl 3 (fun _ hq => (hq.1.2 5 _ _ rfl)) ?_
            refine Dt 4 93 0 (pt b35 1) (fun _ hq => fa 97 4 1 1 1 b35 0 1 h258) ?_
            refine Dl 5 (fun _ hq => (hq.1.2 4 _ _ rfl)) ?_
            refine D1 6 ?_
            obtain ⟨r850, hr851, h852⟩ := bind_some hj847
            refine DCP C9 (Dq N bp0 r804.1 ar804_0_0 nr804_0_0 hbr804_0_0 (WL hsr804_0_0 le833) x1.Penalties a1_2 n1_2 x21.at_ hw837 _ hr851) ?_ ?_
            ·rintro r853 _ F68 w855 _ rfl hs856 le857 ⟨rfl, rfl⟩
             have h859 := BQ h852
             refine ⟨Ck hs856 le857 (by simp) (zdT (by kernel_rfl)), ?_⟩
             obtain rfl := Ac h859
             exact WY (by kernel_rfl) ⟨_, rfl, F68, hs856.dr3.dr3, le857, (fJ ⟨h257, rfl, rfl, rfl, trivial⟩ (hd := h256))⟩
            ·rintro b860 F69 w861 rfl hs862 le863
             have h864 := Bw h852
             obtain rfl := Ac h864
             have hs866 := hs862.dr0.dr0.dr0.dr0.dr0
             exact ⟨h256, _, _, rfl, rfl, hs866.dr0.dr0.dr0.dr0, le863⟩
           ·rintro f w838 ⟨J849, rfl, F67, hs839, le840, ⟨_, rfl⟩⟩
            have h867 := BQ h848
            refine Ad ?_
            refine Sq (Rg [0, 1, 2] ?_)
            refine Vs 1 ?_
            refine Ld hs839.at2 ?_
            obtain ⟨r868, hr869, h870⟩ := bind_some h867
            refine CP Bq (Bx N bp0 r804.1 ar804_0_0 nr804_0_0 hbr804_0_0 (WL hsr804_0_0 (le833.trans le840)) r771.2 ar771_1_2 nr771_1_2 hbr771_1_2 (WL hsr771_1_2 (((le798.trans le808).trans le833).trans le840)) 2 hs839 _ hr869) ?_ ?_
            ·rintro r871 _ F70 w873 _ rfl hs874 le875 ⟨rfl, rfl⟩
             have h877 := BQ h870
             refine Nss (Rg [0, 1, 2] ?_)
             refine Vs 1 ?_
             refine Ld hs874.at1 ?_
             obtain ⟨r878, hr879, h880⟩ := bind_some h877
             refine CP Bq (Bx N bp0 r804.1 ar804_0_0 nr804_0_0 hbr804_0_0 (WL hsr804_0_0 ((le833.trans le840).trans le875)) r804.2 ar804_1_2 nr804_1_2 hbr804_1_2 (WL hsr804_1_2 ((le833.trans le840).trans le875)) 1 hs874 _ hr879) ?_ ?_
             ·rintro r881 _ F71 w883 _ rfl hs884 le885 ⟨rfl, rfl⟩
              have h887 := BQ h880
              refine Nt ?_
              obtain ⟨j893, hj895, h896⟩ := bind_some h887
              refine RD 12 13 [(sb bp0 (Af r804.1 ar804_0_0 nr804_0_0) 100), (sb b811 (Am r804.2 ar804_1_2 nr804_1_2) 113), (sb b778 (Am r771.2 ar771_1_2 nr771_1_2) 113), e1_0, e1_1, e1_3] [(sb bp1 (AP x1 a1_0 n1_0 a1_1 n1_1 a1_2 n1_2 a1_3 n1_3) 26)] hs884 (fun f w => ∃ (F72 : Mem) (aj893_0 : W5) (nj893_0 : Nat) (ej893_0 : Option Nat × Obj), HS wb Fb w F72 ((sb bp0 (Af r804.1 ar804_0_0 nr804_0_0) 100) :: (sb bp1 #[(.slice a1_0 x1.Points.length n1_0), (.slice a1_1 x1.Multipliers.length n1_1), (.slice aj893_0 j893.length nj893_0), (.slice a1_3 x1.Repeats.length n1_3)] 26) :: e1_0 :: e1_1 :: ej893_0 :: e1_3 :: Lf) /\ WI F71 F72 /\ FI f [] [] /\ AC Av 56 F72 aj893_0 nj893_0 j893 ej893_0) (fun wd888 hw889 => ?_) ?_
              ·refine Dv [0, 1, 2] ?_
               refine Dl 3 (fun _ hq => ((hq.2 rfl).2 0 _ _ rfl)) ?_
               refine Dv [4] ?_
               refine Dl 5 (fun _ hq => (hq.1.2 2 _ _ rfl)) ?_
               refine Dv [6] ?_
               refine Dl 7 (fun _ hq => (hq.1.2 1 _ _ rfl)) ?_
               refine Dv [8] ?_
               refine D1 9 ?_
               refine DBs 56 [(vi r771.2.Expr.Op), (vi r771.2.Expr.Value), (.slice ar771_1_2 r771.2.Expr.Kids.length nr771_1_2), (vi r804.2.Expr.Op), (vi r804.2.Expr.Value), (.slice ar804_1_2 r804.2.Expr.Kids.length nr804_1_2)] hw889 (WJ _) (fun b897 w898 hs899 => ?_)
               have hr901 : AC Av 56 F71 (some ⟨b897, 0, none⟩) 1 [({ When := r771.2.Expr, Then := r804.2.Expr } : Clause)] (some b897, .cells ([(vi r771.2.Expr.Op), (vi r771.2.Expr.Value), (.slice ar771_1_2 r771.2.Expr.Kids.length nr771_1_2), (vi r804.2.Expr.Op), (vi r804.2.Expr.Value), (.slice ar804_1_2 r804.2.Expr.Kids.length nr804_1_2)] : List Value).toArray 56 (0, 0)) := W0 ⟨⟨ar771_1_2, nr771_1_2, ar804_1_2, nr804_1_2, rfl, hbr771_1_2, (WL hsr771_1_2 (((((le798.trans le808).trans le833).trans le840).trans le875).trans le885)), hbr804_1_2, (WL hsr804_1_2 (((le833.trans le840).trans le875).trans le885))⟩, rfl⟩ (by simp)
               refine D1 10 ?_
               obtain ⟨r902, hap903, h904⟩ := bind_some hj895
               refine VI LX hs899 (hr1_2.mono (((((((((le46.trans le741).trans le765).trans le775).trans le798).trans le808).trans le833).trans le840).trans le875).trans le885)) (hs899.rd0 hr901) hap903 (WJ _) (fun a905 n906 e907 w908 hs909 hr910 => ?_)
               refine Dv [11] ?_
               refine D1 12 ?_
               refine VG #[(.slice a1_0 x1.Points.length n1_0), (.slice a1_1 x1.Multipliers.length n1_1), (.slice a905 r902.length n906), (.slice a1_3 x1.Repeats.length n1_3)] hs909 (WJ _) (fun w911 hs912 => ?_)
               obtain rfl := Ac h904
               exact WY (by kernel_rfl) ⟨F71, a905, n906, e907, hs912.dr0.dr1.dr1, (WJ _), fI, hr910⟩
              ·rintro f w890 ⟨F72, aj893_0, nj893_0, ej893_0, hs891, le892, ⟨_, rfl⟩, hrj893_0⟩
               obtain rfl := Ac h896
               exact ReP [] hs891 ((((((((((le46.trans le741).trans le765).trans le775).trans le798).trans le808).trans le833).trans le840).trans le875).trans le885).trans le892) ⟨ar804_0_0, nr804_0_0, a1_0, n1_0, e1_0, a1_1, n1_1, e1_1, aj893_0, nj893_0, ej893_0, a1_3, n1_3, e1_3, rfl, rfl, hbr804_0_0, (WL hsr804_0_0 ((((le833.trans le840).trans le875).trans le885).trans le892)), (hr1_0.mono ((((((((((le46.trans le741).trans le765).trans le775).trans le798).trans le808).trans le833).trans le840).trans le875).trans le885).trans le892)), (hr1_1.mono ((((((((((le46.trans le741).trans le765).trans le775).trans le798).trans le808).trans le833).trans le840).trans le875).trans le885).trans le892)), hrj893_0, (hr1_3.mono ((((((((((le46.trans le741).trans le765).trans le775).trans le798).trans le808).trans le833).trans le840).trans le875).trans le885).trans le892))⟩
             ·rintro b913 F73 w914 rfl hs915 le916
              have h917 := Bw h880
              refine Al ?_
              have hs919 := hs915.dr0.dr0.dr0.dr0.dr0
              obtain rfl := Ac h917
              exact CW hs919.dr0.dr0 (((((((((le46.trans le741).trans le765).trans le775).trans le798).trans le808).trans le833).trans le840).trans le875).trans le916)
            ·rintro b920 F74 w921 rfl hs922 le923
             have h924 := Bw h870
             refine Al ?_
             have hs926 := hs922.dr0.dr0.dr0.dr0.dr0
             obtain rfl := Ac h924
             exact CW hs926.dr0.dr0 ((((((((le46.trans le741).trans le765).trans le775).trans le798).trans le808).trans le833).trans le840).trans le923)
           ·rintro c f w928 ⟨hd931, b927, F75, rfl, rfl, hs929, le930⟩
            have h932 := Bw h848
            refine Al ?_
            obtain rfl := Ac h932
            exact ⟨hd931, .inr ⟨_, F75, rfl, rfl, hs929, (((((((le46.trans le741).trans le765).trans le775).trans le798).trans le808).trans le833).trans le930)⟩⟩
          ·rintro b933 F76 w934 rfl hs935 le936
           have h937 := Bw h828
           refine Al ?_
           have hs939 := hs935.dr0.dr0.dr0.dr0.dr0
           obtain rfl := Ac h937
           exact ⟨h256, .inr ⟨_, F76, rfl, rfl, hs939.dr0.dr0.dr0.dr0, ((((((le46.trans le741).trans le765).trans le775).trans le798).trans le808).trans le936)⟩⟩
         ·rintro b940 F77 w941 rfl hs942 le943
          have h944 := Bw h803
          refine Al ?_
          have hs946 := hs942.dr0.dr0.dr0.dr0.dr0
          obtain rfl := Ac h944
          exact ⟨h256, .inr ⟨_, F77, rfl, rfl, hs946.dr0.dr0.dr0, (((((le46.trans le741).trans le765).trans le775).trans le798).trans le943)⟩⟩
        ·rintro b947 F78 w948 rfl hs949 le950
         have h951 := Bw h793
         refine Al ?_
         have hs953 := hs949.dr0.dr0.dr0.dr0.dr0
         obtain rfl := Ac h951
         exact ⟨h256, .inr ⟨_, F78, rfl, rfl, hs953.dr0.dr0.dr0, ((((le46.trans le741).trans le765).trans le775).trans le950)⟩⟩
       ·rintro b954 F79 w955 rfl hs956 le957
        have h958 := Bw h770
        refine Al ?_
        have hs960 := hs956.dr0.dr0.dr0.dr0.dr0
        obtain rfl := Ac h958
        exact ⟨h256, .inr ⟨_, F79, rfl, rfl, hs960.dr0.dr0, (((le46.trans le741).trans le765).trans le957)⟩⟩
      ·rintro b961 F80 w962 rfl hs963 le964
       have h965 := Bw h760
       refine Al ?_
       have hs967 := hs963.dr0.dr0.dr0.dr0.dr0
       obtain rfl := Ac h965
       exact ⟨h256, .inr ⟨_, F80, rfl, rfl, hs967.dr0.dr0, ((le46.trans le741).trans le964)⟩⟩
    ·refine V 63 168 (Pf (mt := 167) (k := 9) (vt := 166) (m := (.tmp 60)) (x := (.tmp 62)) rfl rfl ⟨by kernel_rfl, by kernel_rfl⟩ (by kernel_rfl) (hs259.ownAt' (k := 0) rfl) hp254 (R7 hb260 hb496 hb732)) ?_
     refine Vs 5 ?_
     refine Nss ?_
     refine Sq (Rg [0, 1, 2, 3, 4, 5, 6, 7, 8] ?_)
     refine Vs 3 ?_
     refine Ss (rfl : true = true) 5 ?_
     refine Pk1 (rfl : true = true) ?_
     refine Nt ?_
     refine C1 (rfl : true = true) ?_
     refine Rg [0, 1, 2, 3] ?_
     refine V 75 95 (mv 0 (pt bp0 0) h257) ?_
     refine V 76 0 (fa 97 4 1 1 1 b35 0 1 h258) ?_
     refine Ld hs259.at2 ?_
     have hs968 := hs259.pk7.pk7.pk7.pk7.pk7
     obtain ⟨r969, hr970, h971⟩ := bind_some h734
     refine CP AQ (AW N bp0 r41.1 ar41_0_0 nr41_0_0 hbr41_0_0 hsr41_0_0 60 x21.at_ hs968.pk7.pk6.pk7 _ hr970) ?_ ?_
     ·rintro _ _ _ _ _ rfl _ _ _; cases hr970
     ·rintro b974 F82 w975 rfl hs976 le977
      have h978 := Bw h971
      refine Al ?_
      have hs980 := hs976.dr0.dr0.dr0.dr0.dr0
      obtain rfl := Ac h978
      exact ⟨h256, .inr ⟨_, F82, rfl, rfl, hs980.dr0.dr0, (le46.trans le977)⟩⟩
def Bc (N : Nat) (x0 : Ab) (z0 : AM) : (List Ah × Int × List Clause × List Clause × List Clause × List Expr) -> Option (Be (Ag ⊕ (Ab × AM)) (List Ah × Int × List Clause × List Clause × List Clause × List Expr)) := fun s24 =>
 ((idx s24.1 0).bind fun x42 => (bif (x42.kind_ != 0) then ((Ap N ({ l_ := s24.1, open_ := s24.2.1 } : Ab) ([10] : W4)).bind fun r59 => (bif (!r59.2) then ((A0 N r59.1 ({ Points := s24.2.2.1, Multipliers := s24.2.2.2.1, Penalties := s24.2.2.2.2.1, Repeats := s24.2.2.2.2.2 } : AM)).bind fun r69 => sk r69 (fun b80 => some (.ret (.inl b80))) (fun r72 => some (.next (r72.1.l_, r72.1.open_, r72.2.Points, r72.2.Multipliers, r72.2.Penalties, r72.2.Repeats)))) else some (.next (r59.1.l_, r59.1.open_, s24.2.2.1, s24.2.2.2.1, s24.2.2.2.2.1, s24.2.2.2.2.2)))) else some (.done (s24.1, s24.2.1, s24.2.2.1, s24.2.2.2.1, s24.2.2.2.2.1, s24.2.2.2.2.2))))
def Ed (N : Nat) (x0 : Ab) (z0 : AM) : Option (Ag ⊕ (Ab × AM)) :=
 ((AL (Bc N x0 z0) N (x0.l_, x0.open_, z0.Points, z0.Multipliers, z0.Penalties, z0.Repeats)).bind fun o => o.k (fun r => some r) (fun s31 => some (.inr (({ l_ := s31.1, open_ := s31.2.1 } : Ab), ({ Points := s31.2.2.1, Multipliers := s31.2.2.2.1, Penalties := s31.2.2.2.2.1, Repeats := s31.2.2.2.2.2 } : AM)))))
theorem KG : As Tryz.prog 79 := fun _ _ => by kernel_rfl
theorem LS (N : Nat) {wb w0 : World} {Fb F0 : Mem} {Lf : Own} (hG : DD F0) (bp0 : Nat) (x0 : Ab) (a0_0 : W5) (n0_0 : Nat) (hb0_0 : LC x0.l_.length n0_0) (hs0_0 : SlA Ai F0 a0_0 x0.l_) (bz0 : Nat) (z0 : AM) (az0_0 : W5) (nz0_0 : Nat) (ez0_0 : Option Nat × Obj) (az0_1 : W5) (nz0_1 : Nat) (ez0_1 : Option Nat × Obj) (az0_2 : W5) (nz0_2 : Nat) (ez0_2 : Option Nat × Obj) (az0_3 : W5) (nz0_3 : Nat) (ez0_3 : Option Nat × Obj) (hrz0_0 : AC Av 56 F0 az0_0 nz0_0 z0.Points ez0_0) (hrz0_1 : AC Av 56 F0 az0_1 nz0_1 z0.Multipliers ez0_1) (hrz0_2 : AC Av 56 F0 az0_2 nz0_2 z0.Penalties ez0_2) (hrz0_3 : AC Au 33 F0 az0_3 nz0_3 z0.Repeats ez0_3) (hs0 : HS wb Fb w0 F0 ((sb bp0 (Af x0 a0_0 n0_0) 100) :: (sb bz0 (AP z0 az0_0 nz0_0 az0_1 nz0_1 az0_2 nz0_2 az0_3 nz0_3) 26) :: ez0_0 :: ez0_1 :: ez0_2 :: ez0_3 :: Lf)) (r : (Ag ⊕ (Ab × AM))) (h : Ed N x0 z0 = some r) :
  Calls Tryz.prog 79 ([(pt bp0 0), (pt bz0 0)] : List Value).toArray w0 (Ct wb Fb F0 Lf r (fun b => (.iface 158 (.agg (A2 b)))) fun a F' v L' => ∃ (aq0_0 : W5) (nq0_0 : Nat) (aq1_0 : W5) (nq1_0 : Nat) (eq1_0 : Option Nat × Obj) (aq1_1 : W5) (nq1_1 : Nat) (eq1_1 : Option Nat × Obj) (aq1_2 : W5) (nq1_2 : Nat) (eq1_2 : Option Nat × Obj) (aq1_3 : W5) (nq1_3 : Nat) (eq1_3 : Option Nat × Obj), v = (.tuple #[]) /\ L' = (sb bp0 (Af a.1 aq0_0 nq0_0) 100) :: (sb bz0 (AP a.2 aq1_0 nq1_0 aq1_1 nq1_1 aq1_2 nq1_2 aq1_3 nq1_3) 26) :: eq1_0 :: eq1_1 :: eq1_2 :: eq1_3 :: Lf /\ LC a.1.l_.length nq0_0 /\ SlA Ai F' aq0_0 a.1.l_ /\ AC Av 56 F' aq1_0 nq1_0 a.2.Points eq1_0 /\ AC Av 56 F' aq1_1 nq1_1 a.2.Multipliers eq1_1 /\ AC Av 56 F' aq1_2 nq1_2 a.2.Penalties eq1_2 /\ AC Au 33 F' aq1_3 nq1_3 a.2.Repeats eq1_3) := by
 refine Go 16 Tryz.func79 ?_
 obtain ⟨o21, ho22, h23⟩ := bind_some h
 refine WP (fun f w => ∃ (s31 : (List Ah × Int × List Clause × List Clause × List Clause × List Expr)) (F2 : Mem) (as31_0 : W5) (ns31_0 : Nat) (as31_2 : W5) (ns31_2 : Nat) (es31_2 : Option Nat × Obj) (as31_3 : W5) (ns31_3 : Nat) (es31_3 : Option Nat × Obj) (as31_4 : W5) (ns31_4 : Nat) (es31_4 : Option Nat × Obj) (as31_5 : W5) (ns31_5 : Nat) (es31_5 : Option Nat × Obj), o21 = .done s31 /\ HS wb Fb w F2 ((sb bp0 #[(.slice as31_0 s31.1.length ns31_0), (vi s31.2.1)] 100) :: (sb bz0 #[(.slice as31_2 s31.2.2.1.length ns31_2), (.slice as31_3 s31.2.2.2.1.length ns31_3), (.slice as31_4 s31.2.2.2.2.1.length ns31_4), (.slice as31_5 s31.2.2.2.2.2.length ns31_5)] 26) :: es31_2 :: es31_3 :: es31_4 :: es31_5 :: Lf) /\ WI F0 F2 /\ FI f [] [] /\ LC s31.1.length ns31_0 /\ SlA Ai F2 as31_0 s31.1 /\ AC Av 56 F2 as31_2 ns31_2 s31.2.2.1 es31_2 /\ AC Av 56 F2 as31_3 ns31_3 s31.2.2.2.1 es31_3 /\ AC Av 56 F2 as31_4 ns31_4 s31.2.2.2.2.1 es31_4 /\ AC Au 33 F2 as31_5 ns31_5 s31.2.2.2.2.2 es31_5) ?_ ?_
 ·refine Bk ?_
  refine WH (by kernel_rfl) (fun m f w => ∃ (s24 : (List Ah × Int × List Clause × List Clause × List Clause × List Expr)) (F1 : Mem) (as24_0 : W5) (ns24_0 : Nat) (as24_2 : W5) (ns24_2 : Nat) (es24_2 : Option Nat × Obj) (as24_3 : W5) (ns24_3 : Nat) (es24_3 : Option Nat × Obj) (as24_4 : W5) (ns24_4 : Nat) (es24_4 : Option Nat × Obj) (as24_5 : W5) (ns24_5 : Nat) (es24_5 : Option Nat × Obj), AL (Bc N x0 z0) m s24 = some o21 /\ HS wb Fb w F1 ((sb bp0 #[(.slice as24_0 s24.1.length ns24_0), (vi s24.2.1)] 100) :: (sb bz0 #[(.slice as24_2 s24.2.2.1.length ns24_2), (.slice as24_3 s24.2.2.2.1.length ns24_3), (.slice as24_4 s24.2.2.2.2.1.length ns24_4), (.slice as24_5 s24.2.2.2.2.2.length ns24_5)] 26) :: es24_2 :: es24_3 :: es24_4 :: es24_5 :: Lf) /\ WI F0 F1 /\ FI f [] [(0, (pt bp0 0)), (1, (pt bz0 0))] /\ LC s24.1.length ns24_0 /\ SlA Ai F1 as24_0 s24.1 /\ AC Av 56 F1 as24_2 ns24_2 s24.2.2.1 es24_2 /\ AC Av 56 F1 as24_3 ns24_3 s24.2.2.2.1 es24_3 /\ AC Av 56 F1 as24_4 ns24_4 s24.2.2.2.2.1 es24_4 /\ AC Au 33 F1 as24_5 ns24_5 s24.2.2.2.2.2 es24_5) N ⟨(x0.l_, x0.open_, z0.Points, z0.Multipliers, z0.Penalties, z0.Repeats), F0, a0_0, n0_0, az0_0, nz0_0, ez0_0, az0_1, nz0_1, ez0_1, az0_2, nz0_2, ez0_2, az0_3, nz0_3, ez0_3, ho22, hs0, (WJ _), fI, hb0_0, hs0_0, hrz0_0, hrz0_1, hrz0_2, hrz0_3⟩ ?_
  rintro m36 f w25 ⟨s24, F1, as24_0, ns24_0, as24_2, ns24_2, es24_2, as24_3, ns24_3, es24_3, as24_4, ns24_4, es24_4, as24_5, ns24_5, es24_5, hit37, hs26, le27, ⟨_, rfl⟩, hbs24_0, hss24_0, hrs24_2, hrs24_3, hrs24_4, hrs24_5⟩
  obtain ⟨m38, fl39, rfl, hb40, hnx41⟩ := Bn hit37
  refine Sq ?_
  refine Sq (Rg [0, 1, 2, 3, 4, 5, 6, 7] ?_)
  refine Vs 3 ?_
  refine Ld hs26.at0 ?_
  obtain ⟨x42, hx43, h45⟩ := bind_some hb40
  obtain ⟨hi44, hx43'⟩ := Ay hx43
  obtain ⟨b46, o47, C48, E49, fz50, rfl, hF52, hE53⟩ := WT hss24_0 hx43'
  have hc55 := hE53 _ _ hx43'
  refine Ix hi44 ?_
  refine Vs 1 ?_
  refine Lx 0 (hs26.pers _ _ hF52) hc55 ?_
  refine Vs 1 ?_
  refine Nt ?_
  refine Cd h45 (fun hb56 h57 => ?_) (fun hb56 h58 => ?_)
  ·refine Sc ?_
   refine Ad ?_
   refine Bk ?_
   refine Sq (Rg [0, 1, 2] ?_)
   refine Vs 1 ?_
   obtain ⟨r59, hr60, h61⟩ := bind_some h57
   refine CB AO (AU N bp0 (({ l_ := s24.1, open_ := s24.2.1 } : Ab)) (some ⟨b46, o47, none⟩) ns24_0 hbs24_0 hss24_0 (([10] : W4)) hs26 _ hr60) ?_
   rintro _ F3 w62 _ hs63 le64 ⟨ar59_0_0, nr59_0_0, rfl, rfl, hbr59_0_0, hsr59_0_0⟩
   refine Vs 1 ?_
   refine Nt ?_
   refine Cd h61 (fun hb66 h67 => ?_) (fun hb66 h68 => ?_)
   ·refine Rg [0, 1] ?_
    refine Vs 1 ?_
    obtain ⟨r69, hr70, h71⟩ := bind_some h67
    refine CP Ij (I1 N (hG.mono (le27.trans le64)) bp0 r59.1 ar59_0_0 nr59_0_0 hbr59_0_0 hsr59_0_0 bz0 (({ Points := s24.2.2.1, Multipliers := s24.2.2.2.1, Penalties := s24.2.2.2.2.1, Repeats := s24.2.2.2.2.2 } : AM)) as24_2 ns24_2 es24_2 as24_3 ns24_3 es24_3 as24_4 ns24_4 es24_4 as24_5 ns24_5 es24_5 (hrs24_2.mono le64) (hrs24_3.mono le64) (hrs24_4.mono le64) (hrs24_5.mono le64) hs63 _ hr70) ?_ ?_
    ·rintro r72 _ F4 w74 _ rfl hs75 le76 ⟨ar72_0_0, nr72_0_0, ar72_1_0, nr72_1_0, er72_1_0, ar72_1_1, nr72_1_1, er72_1_1, ar72_1_2, nr72_1_2, er72_1_2, ar72_1_3, nr72_1_3, er72_1_3, rfl, rfl, hbr72_0_0, hsr72_0_0, hrr72_1_0, hrr72_1_1, hrr72_1_2, hrr72_1_3⟩
     have h78 := BQ h71
     refine WE ?_
     refine AB ?_
     have hn79 := Bi h78 hnx41
     exact ⟨m38, Nat.lt_succ_self _, (r72.1.l_, r72.1.open_, r72.2.Points, r72.2.Multipliers, r72.2.Penalties, r72.2.Repeats), F4, ar72_0_0, nr72_0_0, ar72_1_0, nr72_1_0, er72_1_0, ar72_1_1, nr72_1_1, er72_1_1, ar72_1_2, nr72_1_2, er72_1_2, ar72_1_3, nr72_1_3, er72_1_3, hn79, hs75, ((le27.trans le64).trans le76), fI, hbr72_0_0, hsr72_0_0, hrr72_1_0, hrr72_1_1, hrr72_1_2, hrr72_1_3⟩
    ·rintro b80 F5 w81 rfl hs82 le83
     have h84 := Bw h71
     refine Bd ?_
     refine Al ?_
     refine Bd ?_
     have hret := C4 h84 hnx41
     subst hret
     refine .inr ?_
     obtain rfl := Ac h23
     exact CW hs82 ((le27.trans le64).trans le83)
   ·refine Sc ?_
    refine AB ?_
    have hn86 := Bi h68 hnx41
    exact ⟨m38, Nat.lt_succ_self _, (r59.1.l_, r59.1.open_, s24.2.2.1, s24.2.2.2.1, s24.2.2.2.2.1, s24.2.2.2.2.2), F3, ar59_0_0, nr59_0_0, as24_2, ns24_2, es24_2, as24_3, ns24_3, es24_3, as24_4, ns24_4, es24_4, as24_5, ns24_5, es24_5, hn86, hs63, (le27.trans le64), fI, hbr59_0_0, hsr59_0_0, (hrs24_2.mono le64), (hrs24_3.mono le64), (hrs24_4.mono le64), (hrs24_5.mono le64)⟩
  ·refine Ex ?_
   refine AJ ?_
   refine AJ ?_
   refine Bb rfl ?_
   have ho87 := Bt h58 hnx41
   exact .inl ⟨rfl, (s24.1, s24.2.1, s24.2.2.1, s24.2.2.2.1, s24.2.2.2.2.1, s24.2.2.2.2.2), F1, (some ⟨b46, o47, none⟩), ns24_0, as24_2, ns24_2, es24_2, as24_3, ns24_3, es24_3, as24_4, ns24_4, es24_4, as24_5, ns24_5, es24_5, ho87, hs26, le27, fI, hbs24_0, hss24_0, hrs24_2, hrs24_3, hrs24_4, hrs24_5⟩
 ·rintro f w32 ⟨s31, F2, as31_0, ns31_0, as31_2, ns31_2, es31_2, as31_3, ns31_3, es31_3, as31_4, ns31_4, es31_4, as31_5, ns31_5, es31_5, rfl, hs33, le34, ⟨_, rfl⟩, hbs31_0, hss31_0, hrs31_2, hrs31_3, hrs31_4, hrs31_5⟩
  have h88 := CK h23
  obtain rfl := Ac h88
  exact ReP [] hs33 le34 ⟨as31_0, ns31_0, as31_2, ns31_2, es31_2, as31_3, ns31_3, es31_3, as31_4, ns31_4, es31_4, as31_5, ns31_5, es31_5, rfl, rfl, hbs31_0, hss31_0, hrs31_2, hrs31_3, hrs31_4, hrs31_5⟩
def SF : Expr := { Op := 0, Value := 0, Kids := ([] : List Expr) }
def QU : BZ := { Expr := SF, at_ := 0 }
def Df : AM := { Points := ([] : List Clause), Multipliers := ([] : List Clause), Penalties := ([] : List Clause), Repeats := ([] : List Expr) }
def GR {α β : Type} (N : Nat) (s : W4) (run : Ab -> Option (Ag ⊕ α)) (z : β) (f : α -> β) : Option (β × Int × Int) :=
 bif decide ((s.length : Int) > 65536) then some (z, 2, 0) else (DL N s).bind fun l => (run { l_ := l, open_ := 0 }).bind fun q => sk q (fun b => bif b.e_ != 0 then some (z, b.e_, b.at_) else none) (fun a => some (f a, 0, 0))
def BB (N : Nat) (x0 : W4) : Option (Expr × Int × Int) := GR N x0 (fun p => EH N p QU) SF (fun a => a.2.Expr)
def Ba (N : Nat) (x0 : W4) : Option (AM × Int × Int) := GR N x0 (fun p => Ed N p Df) Df (fun a => a.2)
theorem PO {α : Type} {b : Bool} {x y : α} (h : b = true) : (bif b then x else y) = x := by subst h; rfl
theorem NV {α : Type} {b : Bool} {x y : α} (h : b = false) : (bif b then x else y) = y := by subst h; rfl
theorem Dy : As Tryz.prog 25 := fun _ _ => by kernel_rfl
set_option maxRecDepth 100000 in
theorem DI (N : Nat) (w0 : World) (F0 : Mem) (hF : W6 w0 F0) (hG : DD F0) (x0 : W4) (r : Expr × Int × Int) (h : BB N x0 = some r) :
  Calls Tryz.prog 25 ([.string ⟨x0.toArray⟩] : List Value).toArray w0 (Bh w0 F0 fun F' v => ∃ (aq0_2 : W5) (nq0_2 : Nat), v = (.tuple #[(.agg #[(.int .i64 r.1.Op), (.int .i64 r.1.Value), (.slice aq0_2 r.1.Kids.length nq0_2)]), (.int .i64 r.2.1), (.int .i64 r.2.2)]) /\ LC r.1.Kids.length nq0_2 /\ SlA Au F' aq0_2 r.1.Kids) := by
 have hs0 := WK hF
 refine Gp (n := 21) (c := Db Tryz.f25) Tryz.func25 (by kernel_rfl) (by kernel_rfl) (by kernel_rfl) ?_
 refine Sq ?_
 refine Rg [0, 1, 2] ?_
 refine WR (dst := some 2) (ty := 0) (g := none) (by kernel_rfl) rfl (t := 33) (z := .agg #[.int .i64 0, .int .i64 0, .slice none 0 0]) (by kernel_rfl) (C := #[.int .i64 0, .int .i64 0, .slice none 0 0]) rfl hs0 (fun b2 w1 hs1 => ?_)
 refine V 3 27 (AK (x := .const (.int .i64 0)) (v := .int .i64 0) rfl) ?_
 refine V 4 3 (AK (x := .const (.int .i64 0)) (v := .int .i64 0) rfl) ?_
 refine WE ?_
 refine Ad ?_
 refine Sq ?_
 refine Rg [0] ?_
 refine WR (dst := some 5) (ty := 0) (g := none) (by kernel_rfl) rfl (t := 113) (z := .agg #[.int .i64 0, .int .i64 0, .slice none 0 0, .int .i64 0]) (by kernel_rfl) (C := #[.int .i64 0, .int .i64 0, .slice none 0 0, .int .i64 0]) rfl hs1 (fun b5 w2 hs2 => ?_)
 refine WE ?_
 refine Ad ?_
 refine Sq ?_
 refine Rg [0, 1, 2, 3, 4, 5, 6, 7] ?_
 refine V 9 9 (A9 (x := .tmp 0) (v := .string ⟨x0.toArray⟩) rfl) ?_
 refine V 10 103 (DW (fn := .func 85) (first := #[]) (cap := #[.tmp 5]) (fl := []) (cl := [.pointer (some ⟨b5, 0, none⟩)]) rfl rfl) ?_
 obtain ⟨X, hX⟩ : ∃ X : Own, X = [(some b2, .cells #[.int .i64 0, .int .i64 0, .slice none 0 0] 33 (0, 0))] := ⟨_, rfl⟩
 refine WG (dst := some 11) (ty := 88) (g := none) (by kernel_rfl) rfl (Ec (f := .func 78) (aos := #[.tmp 9, .tmp 10]) (ats := #[9, 103]) (g := 78) (first := #[]) (cap := #[]) (args := [.string ⟨x0.toArray⟩, .func (.func 85) #[] #[.pointer (some ⟨b5, 0, none⟩)]]) rfl Ji rfl)
  (Ki N hs2 x0 (g := 85) (cap := [.pointer (some ⟨b5, 0, none⟩)]) Ip (fun o F' L' => match o with
   | none => ∃ (e : Expr) (at_ : Int) (a : W5) (n : Nat), L' = (some b5, .cells #[.int .i64 e.Op, .int .i64 e.Value, .slice a e.Kids.length n, .int .i64 at_] 113 (0, 0)) :: X /\ LC e.Kids.length n /\ SlA Au F' a e.Kids /\ some (e, (0 : Int), (0 : Int)) = some r
   | some x => (bif x.e_ != 0 then some (SF, x.e_, x.at_) else none) = some r /\ (L' = X \/ ∃ o, L' = (some b5, o) :: X)) ?_ ?_) ?_
 ·intro hc F'
  unfold BB GR at h
  rw [PO hc] at h
  exact ⟨h, .inr ⟨_, by rw [hX]⟩⟩
 ·intro hc
  unfold BB GR at h
  rw [NV hc] at h
  obtain ⟨l, hl, h⟩ := bind_some h
  obtain ⟨q, hq, h⟩ := bind_some h
  refine ⟨l, hl, fun w3 F3 be_ ba_ bp a n le3 hb hsl hs3 => ?_⟩
  have hs4 : HS w0 F0 w3 F3 ((some bp, .cells #[.slice a l.length n, .int .i64 0] 100 (0, 0)) :: (some b5, .cells #[.int .i64 0, .int .i64 0, .slice none 0 0, .int .i64 0] 113 (0, 0)) :: (some ba_, ba 0) :: (some be_, be 0) :: X) := by
   rw [hX]; exact (hs3.pick (k := 3) rfl).pick (k := 1) rfl
  refine (I3 N (hG.mono (hs3.le)) bp { l_ := l, open_ := 0 } a n hb hsl b5 QU none 0 WM (.inl rfl) hs4 q hq).mono ?_
  rintro e w4 (⟨a1, F4, v, L', rfl, rfl, hs5, le5, aq, nq, az, nz, rfl, rfl, h1, h2, h3, h4⟩ | ⟨x, F4, rfl, rfl, hs5, le5⟩)
  ·exact .inl ⟨_, F4, _, rfl, ((hs5.drop 0).pick (k := 2) rfl).pick (k := 2) rfl, le5, _, _, az, nz, rfl, h3, h4, h⟩
  ·exact .inr ⟨x, F4, _, rfl, hs5, le5, h, .inl rfl⟩
 ·rintro e w5 ⟨o, F5, L5, rfl, hs5, le5, hK⟩
  cases o with
  | none =>
   obtain ⟨e, at_, a, n, rfl, hb, hsl, hr⟩ := hK
   simp only
   refine V 8 88 (A9 (x := .tmp 11) (v := .tuple #[.int .i64 0, .int .i64 0]) rfl) ?_
   refine V 12 27 (Cr (x := .tmp 8) (vs := #[.int .i64 0, .int .i64 0]) (i := 0) (v := .int .i64 0) rfl rfl) ?_
   refine V 13 3 (Cr (x := .tmp 8) (vs := #[.int .i64 0, .int .i64 0]) (i := 1) (v := .int .i64 0) rfl rfl) ?_
   refine V 6 27 (AK (x := .tmp 12) (v := .int .i64 0) rfl) ?_
   refine V 7 3 (AK (x := .tmp 13) (v := .int .i64 0) rfl) ?_
   refine WE ?_
   refine Ad ?_
   refine Sq ?_
   refine Sq ?_
   refine Rg [0, 1] ?_
   refine V 14 27 (A9 (x := .tmp 6) (v := .int .i64 0) rfl) ?_
   refine V 15 4 (JP (t := 27) (t' := 27) (x := .tmp 14) (y := .const (.int .i64 0)) (k := .i64) (a := 0) (b := 0) rfl rfl) ?_
   refine WE ?_
   refine Ad ?_
   refine CWP.cond0 (t := false) (by kernel_rfl) rfl rfl ?_
   refine CWP.skip (by kernel_rfl) ?_
   refine Ad ?_
   refine Sq ?_
   refine Rg [0, 1, 2, 3, 4] ?_
   refine V 19 0 (CL (s := 113) (x := .tmp 5) (i := 0) (o := 0) (k := 3) (b := b5) (o0 := 0) rfl (by kernel_rfl) rfl (o1 := 0) rfl) ?_
   refine V 20 33 (CX (t := 33) (x := .tmp 19) (b := b5) (o := 0) (g := true) (s := 3) (C := #[.int .i64 e.Op, .int .i64 e.Value, .slice a e.Kids.length n, .int .i64 at_]) (v := .agg #[.int .i64 e.Op, .int .i64 e.Value, .slice a e.Kids.length n]) rfl (by kernel_rfl) (hs5.ownAt (k := 0) rfl) rfl rfl rfl) ?_
   subst hX
   refine WS (ty := 0) (g := none) (by kernel_rfl) rfl (x := .tmp 2) (y := .tmp 20) (t := 33) (gg := true) (s := 3) (v := .agg #[.int .i64 e.Op, .int .i64 e.Value, .slice a e.Kids.length n]) (b := b2) (o := 0) (C := #[.int .i64 0, .int .i64 0, .slice none 0 0]) rfl rfl (by kernel_rfl) hs5 (k := 1) rfl rfl rfl rfl (C' := #[.int .i64 e.Op, .int .i64 e.Value, .slice a e.Kids.length n]) rfl (fun w6 hs6 => ?_)
   refine V 3 27 (AK (x := .const (.int .i64 0)) (v := .int .i64 0) rfl) ?_
   refine V 4 3 (AK (x := .const (.int .i64 0)) (v := .int .i64 0) rfl) ?_
   refine WE ?_
   refine Ad ?_
   refine CWP.ret (by kernel_rfl) ?_
   obtain rfl := Ac hr
   exact ⟨rfl, _, AN (l := [.cell 2 33, .tmp 3, .tmp 4]) (by kernel_rfl) (vs := [.agg #[.int .i64 e.Op, .int .i64 e.Value, .slice a e.Kids.length n], .int .i64 0, .int .i64 0]) ⟨b2, 0, rfl, Ao (t := 33) (g := true) (s := 3) (by kernel_rfl) (hs6.ownAt (k := 1) rfl) rfl (by decide), rfl, rfl, trivial⟩, _, F5, rfl, hs6.clear, a, n, rfl, hb, hsl⟩
  | some x =>
   obtain ⟨hr, hL⟩ := hK
   have hs6 : HS w0 F0 w5 F5 X := by
    rcases hL with rfl | ⟨o, rfl⟩
    ·exact hs5
    ·exact hs5.drop 0
   clear hs5 hL
   cases hne : x.e_ != 0 with
   | false => rw [hne] at hr; cases hr
   | true =>
    rw [hne] at hr
    obtain rfl := Ac hr
    simp only
    refine V 8 88 (A9 (x := .tmp 11) (v := .tuple #[.int .i64 x.e_, .int .i64 x.at_]) rfl) ?_
    refine V 12 27 (Cr (x := .tmp 8) (vs := #[.int .i64 x.e_, .int .i64 x.at_]) (i := 0) (v := .int .i64 x.e_) rfl rfl) ?_
    refine V 13 3 (Cr (x := .tmp 8) (vs := #[.int .i64 x.e_, .int .i64 x.at_]) (i := 1) (v := .int .i64 x.at_) rfl rfl) ?_
    refine V 6 27 (AK (x := .tmp 12) (v := .int .i64 x.e_) rfl) ?_
    refine V 7 3 (AK (x := .tmp 13) (v := .int .i64 x.at_) rfl) ?_
    refine WE ?_
    refine Ad ?_
    refine Sq ?_
    refine Sq ?_
    refine Rg [0, 1] ?_
    refine V 14 27 (A9 (x := .tmp 6) (v := .int .i64 x.e_) rfl) ?_
    refine V 15 4 (JP (t := 27) (t' := 27) (x := .tmp 14) (y := .const (.int .i64 0)) (k := .i64) (a := x.e_) (b := 0) rfl rfl) ?_
    refine WE ?_
    refine Ad ?_
    refine CWP.cond1 (t := x.e_ != 0) (by kernel_rfl) rfl hne ?_
    refine Sq ?_
    refine Rg [0, 1, 2, 3, 4, 5] ?_
    refine V 16 33 (Ho (t := 33) (parts := #[]) (vs := []) rfl (cs := [.int .i64 0, .int .i64 0, .slice none 0 0]) (by kernel_rfl)) ?_
    refine V 17 27 (A9 (x := .tmp 6) (v := .int .i64 x.e_) rfl) ?_
    refine V 18 3 (A9 (x := .tmp 7) (v := .int .i64 x.at_) rfl) ?_
    subst hX
    refine WS (ty := 0) (g := none) (by kernel_rfl) rfl (x := .tmp 2) (y := .tmp 16) (t := 33) (gg := true) (s := 3) (v := .agg #[.int .i64 0, .int .i64 0, .slice none 0 0]) (b := b2) (o := 0) (C := #[.int .i64 0, .int .i64 0, .slice none 0 0]) rfl rfl (by kernel_rfl) hs6 (k := 0) rfl rfl rfl rfl (C' := #[.int .i64 0, .int .i64 0, .slice none 0 0]) rfl (fun w7 hs7 => ?_)
    refine V 3 27 (AK (x := .tmp 17) (v := .int .i64 x.e_) rfl) ?_
    refine V 4 3 (AK (x := .tmp 18) (v := .int .i64 x.at_) rfl) ?_
    refine WE ?_
    refine Ad ?_
    refine CWP.ret (by kernel_rfl) ?_
    refine Aj ?_
    exact ⟨rfl, _, AN (l := [.cell 2 33, .tmp 3, .tmp 4]) (by kernel_rfl) (vs := [.agg #[.int .i64 0, .int .i64 0, .slice none 0 0], .int .i64 x.e_, .int .i64 x.at_]) ⟨b2, 0, rfl, Ao (t := 33) (g := true) (s := 3) (by kernel_rfl) (hs7.ownAt (k := 0) rfl) rfl (by decide), rfl, rfl, trivial⟩, _, F5, rfl, hs7.clear, none, 0, rfl, WM, .inl rfl⟩
theorem BN : As Tryz.prog 22 := fun _ _ => by kernel_rfl
set_option maxRecDepth 100000 in
theorem BX (N : Nat) (w0 : World) (F0 : Mem) (hF : W6 w0 F0) (hG : DD F0) (x0 : W4) (r : AM × Int × Int) (h : Ba N x0 = some r) :
  Calls Tryz.prog 22 ([.string ⟨x0.toArray⟩] : List Value).toArray w0 (Bh w0 F0 fun F' v => ∃ (aq0_0 : W5) (nq0_0 : Nat) (aq0_1 : W5) (nq0_1 : Nat) (aq0_2 : W5) (nq0_2 : Nat) (aq0_3 : W5) (nq0_3 : Nat), v = (.tuple #[(.agg #[(.slice aq0_0 r.1.Points.length nq0_0), (.slice aq0_1 r.1.Multipliers.length nq0_1), (.slice aq0_2 r.1.Penalties.length nq0_2), (.slice aq0_3 r.1.Repeats.length nq0_3)]), (.int .i64 r.2.1), (.int .i64 r.2.2)]) /\ LC r.1.Points.length nq0_0 /\ SlA Av F' aq0_0 r.1.Points /\ LC r.1.Multipliers.length nq0_1 /\ SlA Av F' aq0_1 r.1.Multipliers /\ LC r.1.Penalties.length nq0_2 /\ SlA Av F' aq0_2 r.1.Penalties /\ LC r.1.Repeats.length nq0_3 /\ SlA Au F' aq0_3 r.1.Repeats) := by
 have hs0 := WK hF
 refine Gp (n := 20) (c := Db Tryz.f22) Tryz.func22 (by kernel_rfl) (by kernel_rfl) (by kernel_rfl) ?_
 refine Sq ?_
 refine Rg [0, 1, 2] ?_
 refine WR (dst := some 2) (ty := 0) (g := none) (by kernel_rfl) rfl (t := 26) (z := .agg #[.slice none 0 0, .slice none 0 0, .slice none 0 0, .slice none 0 0]) (by kernel_rfl) (C := #[.slice none 0 0, .slice none 0 0, .slice none 0 0, .slice none 0 0]) rfl hs0 (fun b2 w1 hs1 => ?_)
 refine V 3 27 (AK (x := .const (.int .i64 0)) (v := .int .i64 0) rfl) ?_
 refine V 4 3 (AK (x := .const (.int .i64 0)) (v := .int .i64 0) rfl) ?_
 refine WE ?_
 refine Ad ?_
 refine Sq ?_
 refine Rg [0] ?_
 refine WR (dst := some 5) (ty := 0) (g := none) (by kernel_rfl) rfl (t := 26) (z := .agg #[.slice none 0 0, .slice none 0 0, .slice none 0 0, .slice none 0 0]) (by kernel_rfl) (C := #[.slice none 0 0, .slice none 0 0, .slice none 0 0, .slice none 0 0]) rfl hs1 (fun b5 w2 hs2 => ?_)
 refine WE ?_
 refine Ad ?_
 refine Sq ?_
 refine Rg [0, 1, 2, 3, 4, 5, 6, 7] ?_
 refine V 9 9 (A9 (x := .tmp 0) (v := .string ⟨x0.toArray⟩) rfl) ?_
 refine V 10 103 (DW (fn := .func 79) (first := #[]) (cap := #[.tmp 5]) (fl := []) (cl := [.pointer (some ⟨b5, 0, none⟩)]) rfl rfl) ?_
 obtain ⟨X, hX⟩ : ∃ X : Own, X = [(some b2, .cells #[.slice none 0 0, .slice none 0 0, .slice none 0 0, .slice none 0 0] 26 (0, 0))] := ⟨_, rfl⟩
 refine WG (dst := some 11) (ty := 88) (g := none) (by kernel_rfl) rfl (Ec (f := .func 78) (aos := #[.tmp 9, .tmp 10]) (ats := #[9, 103]) (g := 78) (first := #[]) (cap := #[]) (args := [.string ⟨x0.toArray⟩, .func (.func 79) #[] #[.pointer (some ⟨b5, 0, none⟩)]]) rfl Ji rfl)
  (Ki N hs2 x0 (g := 79) (cap := [.pointer (some ⟨b5, 0, none⟩)]) KG (fun o F' L' => match o with
   | none => ∃ (e : AM) (a0 : W5) (n0 : Nat) (a1 : W5) (n1 : Nat) (a2 : W5) (n2 : Nat) (a3 : W5) (n3 : Nat), L' = (some b5, .cells #[.slice a0 e.Points.length n0, .slice a1 e.Multipliers.length n1, .slice a2 e.Penalties.length n2, .slice a3 e.Repeats.length n3] 26 (0, 0)) :: X /\ LC e.Points.length n0 /\ SlA Av F' a0 e.Points /\ LC e.Multipliers.length n1 /\ SlA Av F' a1 e.Multipliers /\ LC e.Penalties.length n2 /\ SlA Av F' a2 e.Penalties /\ LC e.Repeats.length n3 /\ SlA Au F' a3 e.Repeats /\ some (e, (0 : Int), (0 : Int)) = some r
   | some x => (bif x.e_ != 0 then some (Df, x.e_, x.at_) else none) = some r /\ (L' = X \/ ∃ o, L' = (some b5, o) :: X)) ?_ ?_) ?_
 ·intro hc F'
  unfold Ba GR at h
  rw [PO hc] at h
  exact ⟨h, .inr ⟨_, by rw [hX]⟩⟩
 ·intro hc
  unfold Ba GR at h
  rw [NV hc] at h
  obtain ⟨l, hl, h⟩ := bind_some h
  obtain ⟨q, hq, h⟩ := bind_some h
  refine ⟨l, hl, fun w3 F3 be_ ba_ bp a n le3 hb hsl hs3 => ?_⟩
  have hs4 : HS w0 F0 w3 F3 ((some bp, .cells #[.slice a l.length n, .int .i64 0] 100 (0, 0)) :: (some b5, .cells #[.slice none 0 0, .slice none 0 0, .slice none 0 0, .slice none 0 0] 26 (0, 0)) :: (none, .cells #[] 0 (0, 0)) :: (none, .cells #[] 0 (0, 0)) :: (none, .cells #[] 0 (0, 0)) :: (none, .cells #[] 0 (0, 0)) :: (some ba_, ba 0) :: (some be_, be 0) :: X) := by
   have h0 : HS w0 F0 w3 F3 ((some bp, .cells #[.slice a l.length n, .int .i64 0] 100 (0, 0)) :: (some b5, .cells #[.slice none 0 0, .slice none 0 0, .slice none 0 0, .slice none 0 0] 26 (0, 0)) :: (some ba_, ba 0) :: (some be_, be 0) :: X) := by
    rw [hX]; exact (hs3.pick (k := 3) rfl).pick (k := 1) rfl
   exact (((((h0.dummy (.cells #[] 0 (0, 0))).dummy (.cells #[] 0 (0, 0))).dummy (.cells #[] 0 (0, 0))).dummy (.cells #[] 0 (0, 0))).pick (k := 5) rfl).pick (k := 5) rfl
  refine (LS N (hG.mono (hs3.le)) bp { l_ := l, open_ := 0 } a n hb hsl b5 Df none 0 (none, .cells #[] 0 (0, 0)) none 0 (none, .cells #[] 0 (0, 0)) none 0 (none, .cells #[] 0 (0, 0)) none 0 (none, .cells #[] 0 (0, 0)) (AC.nil _ _ _ _) (AC.nil _ _ _ _) (AC.nil _ _ _ _) (AC.nil _ _ _ _) hs4 q hq).mono ?_
  rintro e w4 (⟨q1, F4, v, L', rfl, rfl, hs5, le5, aq, nq, a0, n0, e0, a1, n1, e1, a2, n2, e2, a3, n3, e3, rfl, rfl, h1, h2, r0, r1, r2, r3⟩ | ⟨x, F4, rfl, rfl, hs5, le5⟩)
  ·have hs6 := hs5.drop 0
   obtain ⟨G0, hg0, lg0, s0⟩ : ∃ Fq, HS w0 F0 w4 Fq ((some b5, .cells #[.slice a0 q1.2.Points.length n0, .slice a1 q1.2.Multipliers.length n1, .slice a2 q1.2.Penalties.length n2, .slice a3 q1.2.Repeats.length n3] 26 (0, 0)) :: e1 :: e2 :: e3 :: (some ba_, ba 0) :: (some be_, be 0) :: X) /\ WI F4 Fq /\ SlA Av Fq a0 q1.2.Points := HS.freezeRow hs6 (k := 1) rfl r0
   obtain ⟨G1, hg1, lg1, s1⟩ : ∃ Fq, HS w0 F0 w4 Fq ((some b5, .cells #[.slice a0 q1.2.Points.length n0, .slice a1 q1.2.Multipliers.length n1, .slice a2 q1.2.Penalties.length n2, .slice a3 q1.2.Repeats.length n3] 26 (0, 0)) :: e2 :: e3 :: (some ba_, ba 0) :: (some be_, be 0) :: X) /\ WI G0 Fq /\ SlA Av Fq a1 q1.2.Multipliers := HS.freezeRow hg0 (k := 1) rfl (r1.mono lg0)
   obtain ⟨G2, hg2, lg2, s2⟩ : ∃ Fq, HS w0 F0 w4 Fq ((some b5, .cells #[.slice a0 q1.2.Points.length n0, .slice a1 q1.2.Multipliers.length n1, .slice a2 q1.2.Penalties.length n2, .slice a3 q1.2.Repeats.length n3] 26 (0, 0)) :: e3 :: (some ba_, ba 0) :: (some be_, be 0) :: X) /\ WI G1 Fq /\ SlA Av Fq a2 q1.2.Penalties := HS.freezeRow hg1 (k := 1) rfl (r2.mono (lg0.trans lg1))
   obtain ⟨G3, hg3, lg3, s3⟩ : ∃ Fq, HS w0 F0 w4 Fq ((some b5, .cells #[.slice a0 q1.2.Points.length n0, .slice a1 q1.2.Multipliers.length n1, .slice a2 q1.2.Penalties.length n2, .slice a3 q1.2.Repeats.length n3] 26 (0, 0)) :: (some ba_, ba 0) :: (some be_, be 0) :: X) /\ WI G2 Fq /\ SlA Au Fq a3 q1.2.Repeats := HS.freezeRow hg2 (k := 1) rfl (r3.mono ((lg0.trans lg1).trans lg2))
   exact .inl ⟨_, G3, _, rfl, (hg3.pick (k := 2) rfl).pick (k := 2) rfl, (((le5.trans lg0).trans lg1).trans lg2).trans lg3, q1.2, a0, n0, a1, n1, a2, n2, a3, n3, rfl, r0.bound, s0.mono ((lg1.trans lg2).trans lg3), r1.bound, s1.mono (lg2.trans lg3), r2.bound, s2.mono lg3, r3.bound, s3, h⟩
  ·exact .inr ⟨x, F4, _, rfl, hs5, le5, h, .inl rfl⟩
 ·rintro e w5 ⟨o, F5, L5, rfl, hs5, le5, hK⟩
  cases o with
  | none =>
   obtain ⟨e, a0, n0, a1, n1, a2, n2, a3, n3, rfl, hb0, hl0, hb1, hl1, hb2, hl2, hb3, hl3, hr⟩ := hK
   simp only
   refine V 8 88 (A9 (x := .tmp 11) (v := .tuple #[.int .i64 0, .int .i64 0]) rfl) ?_
   refine V 12 27 (Cr (x := .tmp 8) (vs := #[.int .i64 0, .int .i64 0]) (i := 0) (v := .int .i64 0) rfl rfl) ?_
   refine V 13 3 (Cr (x := .tmp 8) (vs := #[.int .i64 0, .int .i64 0]) (i := 1) (v := .int .i64 0) rfl rfl) ?_
   refine V 6 27 (AK (x := .tmp 12) (v := .int .i64 0) rfl) ?_
   refine V 7 3 (AK (x := .tmp 13) (v := .int .i64 0) rfl) ?_
   refine WE ?_
   refine Ad ?_
   refine Sq ?_
   refine Sq ?_
   refine Rg [0, 1] ?_
   refine V 14 27 (A9 (x := .tmp 6) (v := .int .i64 0) rfl) ?_
   refine V 15 4 (JP (t := 27) (t' := 27) (x := .tmp 14) (y := .const (.int .i64 0)) (k := .i64) (a := 0) (b := 0) rfl rfl) ?_
   refine WE ?_
   refine Ad ?_
   refine CWP.cond0 (t := false) (by kernel_rfl) rfl rfl ?_
   refine CWP.skip (by kernel_rfl) ?_
   refine Ad ?_
   refine Sq ?_
   refine Rg [0, 1, 2, 3] ?_
   refine V 19 26 (CX (t := 26) (x := .tmp 5) (b := b5) (o := 0) (g := true) (s := 4) (C := #[.slice a0 e.Points.length n0, .slice a1 e.Multipliers.length n1, .slice a2 e.Penalties.length n2, .slice a3 e.Repeats.length n3]) (v := .agg #[.slice a0 e.Points.length n0, .slice a1 e.Multipliers.length n1, .slice a2 e.Penalties.length n2, .slice a3 e.Repeats.length n3]) rfl (by kernel_rfl) (hs5.ownAt (k := 0) rfl) rfl rfl rfl) ?_
   subst hX
   refine WS (ty := 0) (g := none) (by kernel_rfl) rfl (x := .tmp 2) (y := .tmp 19) (t := 26) (gg := true) (s := 4) (v := .agg #[.slice a0 e.Points.length n0, .slice a1 e.Multipliers.length n1, .slice a2 e.Penalties.length n2, .slice a3 e.Repeats.length n3]) (b := b2) (o := 0) (C := #[.slice none 0 0, .slice none 0 0, .slice none 0 0, .slice none 0 0]) rfl rfl (by kernel_rfl) hs5 (k := 1) rfl rfl rfl rfl (C' := #[.slice a0 e.Points.length n0, .slice a1 e.Multipliers.length n1, .slice a2 e.Penalties.length n2, .slice a3 e.Repeats.length n3]) rfl (fun w6 hs6 => ?_)
   refine V 3 27 (AK (x := .const (.int .i64 0)) (v := .int .i64 0) rfl) ?_
   refine V 4 3 (AK (x := .const (.int .i64 0)) (v := .int .i64 0) rfl) ?_
   refine WE ?_
   refine Ad ?_
   refine CWP.ret (by kernel_rfl) ?_
   obtain rfl := Ac hr
   exact ⟨rfl, _, AN (l := [.cell 2 26, .tmp 3, .tmp 4]) (by kernel_rfl) (vs := [.agg #[.slice a0 e.Points.length n0, .slice a1 e.Multipliers.length n1, .slice a2 e.Penalties.length n2, .slice a3 e.Repeats.length n3], .int .i64 0, .int .i64 0]) ⟨b2, 0, rfl, Ao (t := 26) (g := true) (s := 4) (by kernel_rfl) (hs6.ownAt (k := 1) rfl) rfl (by decide), rfl, rfl, trivial⟩, _, F5, rfl, hs6.clear, a0, n0, a1, n1, a2, n2, a3, n3, rfl, hb0, hl0, hb1, hl1, hb2, hl2, hb3, hl3⟩
  | some x =>
   obtain ⟨hr, hL⟩ := hK
   have hs6 : HS w0 F0 w5 F5 X := by
    rcases hL with rfl | ⟨o, rfl⟩
    ·exact hs5
    ·exact hs5.drop 0
   clear hs5 hL
   cases hne : x.e_ != 0 with
   | false => rw [hne] at hr; cases hr
   | true =>
    rw [hne] at hr
    obtain rfl := Ac hr
    simp only
    refine V 8 88 (A9 (x := .tmp 11) (v := .tuple #[.int .i64 x.e_, .int .i64 x.at_]) rfl) ?_
    refine V 12 27 (Cr (x := .tmp 8) (vs := #[.int .i64 x.e_, .int .i64 x.at_]) (i := 0) (v := .int .i64 x.e_) rfl rfl) ?_
    refine V 13 3 (Cr (x := .tmp 8) (vs := #[.int .i64 x.e_, .int .i64 x.at_]) (i := 1) (v := .int .i64 x.at_) rfl rfl) ?_
    refine V 6 27 (AK (x := .tmp 12) (v := .int .i64 x.e_) rfl) ?_
    refine V 7 3 (AK (x := .tmp 13) (v := .int .i64 x.at_) rfl) ?_
    refine WE ?_
    refine Ad ?_
    refine Sq ?_
    refine Sq ?_
    refine Rg [0, 1] ?_
    refine V 14 27 (A9 (x := .tmp 6) (v := .int .i64 x.e_) rfl) ?_
    refine V 15 4 (JP (t := 27) (t' := 27) (x := .tmp 14) (y := .const (.int .i64 0)) (k := .i64) (a := x.e_) (b := 0) rfl rfl) ?_
    refine WE ?_
    refine Ad ?_
    refine CWP.cond1 (t := x.e_ != 0) (by kernel_rfl) rfl hne ?_
    refine Sq ?_
    refine Rg [0, 1, 2, 3, 4, 5] ?_
    refine V 16 26 (Ho (t := 26) (parts := #[]) (vs := []) rfl (cs := [.slice none 0 0, .slice none 0 0, .slice none 0 0, .slice none 0 0]) (by kernel_rfl)) ?_
    refine V 17 27 (A9 (x := .tmp 6) (v := .int .i64 x.e_) rfl) ?_
    refine V 18 3 (A9 (x := .tmp 7) (v := .int .i64 x.at_) rfl) ?_
    subst hX
    refine WS (ty := 0) (g := none) (by kernel_rfl) rfl (x := .tmp 2) (y := .tmp 16) (t := 26) (gg := true) (s := 4) (v := .agg #[.slice none 0 0, .slice none 0 0, .slice none 0 0, .slice none 0 0]) (b := b2) (o := 0) (C := #[.slice none 0 0, .slice none 0 0, .slice none 0 0, .slice none 0 0]) rfl rfl (by kernel_rfl) hs6 (k := 0) rfl rfl rfl rfl (C' := #[.slice none 0 0, .slice none 0 0, .slice none 0 0, .slice none 0 0]) rfl (fun w7 hs7 => ?_)
    refine V 3 27 (AK (x := .tmp 17) (v := .int .i64 x.e_) rfl) ?_
    refine V 4 3 (AK (x := .tmp 18) (v := .int .i64 x.at_) rfl) ?_
    refine WE ?_
    refine Ad ?_
    refine CWP.ret (by kernel_rfl) ?_
    refine Aj ?_
    exact ⟨rfl, _, AN (l := [.cell 2 26, .tmp 3, .tmp 4]) (by kernel_rfl) (vs := [.agg #[.slice none 0 0, .slice none 0 0, .slice none 0 0, .slice none 0 0], .int .i64 x.e_, .int .i64 x.at_]) ⟨b2, 0, rfl, Ao (t := 26) (g := true) (s := 4) (by kernel_rfl) (hs7.ownAt (k := 0) rfl) rfl (by decide), rfl, rfl, trivial⟩, _, F5, rfl, hs7.clear, none, 0, none, 0, none, 0, none, 0, rfl, WM, .inl rfl, WM, .inl rfl, WM, .inl rfl, WM, .inl rfl⟩
def J1 (N : Nat)  : Option Bool :=
 ((BB N ([49, 32, 43, 32, 50, 32, 42, 32, 51, 32, 61, 32, 55, 32, 97, 110, 100, 32, 110, 111, 116, 32, 98, 97, 110, 100, 32, 60, 32, 50] : W4)).bind fun r21 => ((CD N r21.1).bind fun r34 => ((Ba N ([112, 111, 105, 110, 116, 115, 58, 32, 98, 97, 110, 100, 32, 61, 32, 49, 32, 61, 62, 32, 50] : W4)).bind fun r42 => ((Ba N ([112, 111, 105, 110, 116, 115, 58, 32, 98, 97, 110, 100, 32, 61, 62, 32, 50] : W4)).bind fun r55 => ((mk0 0 14).bind fun r68 => ((idx r68 0).bind fun x78 => ((JR N r42.1 (r68.set (0 : Int).toNat 1)).bind fun r97 => ((BB N ([105, 102, 40, 98, 97, 110, 100, 32, 61, 32, 98, 97, 110, 100, 44, 32, 48, 32, 43, 32, 122, 111, 110, 101, 44, 32, 55, 41] : W4)).bind fun r105 => ((HT N r105.1).bind fun r118 => (bif ((r21.2.1 != 0) || ((r34.2 != 0) || ((r42.2.1 != 0) || ((r55.2.1 != 61) || ((r97.2 != 0) || ((r105.2.1 != 0) || ((r118.2 != 0) || (r55.2.2 != 8)))))))) then some false else some ((r21.1.Op == 4) && ((r34.1 == ([49, 32, 43, 32, 50, 32, 42, 32, 51, 32, 61, 32, 55, 32, 97, 110, 100, 32, 110, 111, 116, 32, 98, 97, 110, 100, 32, 60, 32, 50] : W4)) && ((r97.1 == 2) && ((r118.1.Op == 2) && (r118.1.Value == 7)))))))))))))))
theorem LO : As Tryz.prog 21 := fun _ _ => by kernel_rfl
theorem M4 (N : Nat) (w0 : World) (F0 : Mem) (hF : W6 w0 F0) (hG : DD F0)  (r : Bool) (h : J1 N  = some r) :
  Calls Tryz.prog 21 ([] : List Value).toArray w0 (Bh w0 F0 fun F' v => v = (.bool r)) := by
 have hs0 := WK hF
 refine Go 110 Tryz.func21 ?_
 refine Sq (Rg [0] ?_)
 refine Vs 1 ?_
 refine Nss (Rg [0, 1, 2, 3, 4, 5, 6, 7, 8] ?_)
 obtain ⟨r21, hr22, h23⟩ := bind_some h
 refine Cl' Dy hs0 (DI N w0 F0 hs0.pers hG (([49, 32, 43, 32, 50, 32, 42, 32, 51, 32, 61, 32, 55, 32, 97, 110, 100, 32, 110, 111, 116, 32, 98, 97, 110, 100, 32, 60, 32, 50] : W4)) _ hr22) ?_
 rintro _ F1 w25 hs26 le27 ⟨ar21_0_2, nr21_0_2, rfl, hbr21_0_2, hsr21_0_2⟩
 refine Vs 4 ?_
 refine Al' 33 #[(vi 0), (vi 0), (.slice none ([] : List Expr).length 0)] hs26 (fun b29 w30 hs31 => ?_)
 refine St0 (Ak r21.1 ar21_0_2 nr21_0_2) hs31 (fun w32 hs33 => ?_)
 refine Vs 2 ?_
 refine Nss (Rg [0, 1, 2, 3, 4, 5, 6] ?_)
 refine Ld hs33.at0 ?_
 obtain ⟨r34, hr35, h36⟩ := bind_some h23
 refine Cl' Et hs33 (EO N w32 F1 hs33.pers (hG.mono le27) r21.1 ar21_0_2 nr21_0_2 hbr21_0_2 hsr21_0_2 _ hr35) ?_
 rintro _ F2 w38 hs39 le40 rfl
 refine Vs 5 ?_
 refine Nss (Rg [0, 1, 2, 3, 4, 5, 6, 7, 8] ?_)
 obtain ⟨r42, hr43, h44⟩ := bind_some h36
 refine Cl' BN hs39 (BX N w38 F2 hs39.pers (hG.mono (le27.trans le40)) (([112, 111, 105, 110, 116, 115, 58, 32, 98, 97, 110, 100, 32, 61, 32, 49, 32, 61, 62, 32, 50] : W4)) _ hr43) ?_
 rintro _ F3 w46 hs47 le48 ⟨ar42_0_0, nr42_0_0, ar42_0_1, nr42_0_1, ar42_0_2, nr42_0_2, ar42_0_3, nr42_0_3, rfl, hbr42_0_0, hsr42_0_0, hbr42_0_1, hsr42_0_1, hbr42_0_2, hsr42_0_2, hbr42_0_3, hsr42_0_3⟩
 refine Vs 4 ?_
 refine Al' 26 #[(.slice none ([] : List Clause).length 0), (.slice none ([] : List Clause).length 0), (.slice none ([] : List Clause).length 0), (.slice none ([] : List Expr).length 0)] hs47 (fun b50 w51 hs52 => ?_)
 refine St0 (AP r42.1 ar42_0_0 nr42_0_0 ar42_0_1 nr42_0_1 ar42_0_2 nr42_0_2 ar42_0_3 nr42_0_3) hs52 (fun w53 hs54 => ?_)
 refine Vs 2 ?_
 refine Nss (Rg [0, 1, 2, 3, 4, 5, 6, 7, 8] ?_)
 obtain ⟨r55, hr56, h57⟩ := bind_some h44
 refine Cl' BN hs54 (BX N w53 F3 hs54.pers (hG.mono ((le27.trans le40).trans le48)) (([112, 111, 105, 110, 116, 115, 58, 32, 98, 97, 110, 100, 32, 61, 62, 32, 50] : W4)) _ hr56) ?_
 rintro _ F4 w59 hs60 le61 ⟨ar55_0_0, nr55_0_0, ar55_0_1, nr55_0_1, ar55_0_2, nr55_0_2, ar55_0_3, nr55_0_3, rfl, hbr55_0_0, hsr55_0_0, hbr55_0_1, hsr55_0_1, hbr55_0_2, hsr55_0_2, hbr55_0_3, hsr55_0_3⟩
 refine Vs 4 ?_
 refine Al' 26 #[(.slice none ([] : List Clause).length 0), (.slice none ([] : List Clause).length 0), (.slice none ([] : List Clause).length 0), (.slice none ([] : List Expr).length 0)] hs60 (fun b63 w64 hs65 => ?_)
 refine St0 (AP r55.1 ar55_0_0 nr55_0_0 ar55_0_1 nr55_0_1 ar55_0_2 nr55_0_2 ar55_0_3 nr55_0_3) hs65 (fun w66 hs67 => ?_)
 refine Vs 2 ?_
 refine Nss (Rg [0, 1] ?_)
 obtain ⟨r68, hm69, h70⟩ := bind_some h57
 refine RWP.makeSlice (dst := (some 40)) (ty := 47) (g := none) (by kernel_rfl) rfl (x := (.const (vi 14))) (y := (.const (vi 14))) (t := 47) (by_ := 8) (z := (vi 0)) (T := Dr) (E := 3) rfl rfl (by kernel_rfl) (by decide) (by kernel_rfl) (z0 := 0) (fun _ => rfl) (by decide) hs67 hm69 (fun b71 n72 C73 w74 (hs75 : HS w0 F0 w74 F4 [(some b71, .cells C73 3 (0, 0)), (sb b63 (AP r55.1 ar55_0_0 nr55_0_0 ar55_0_1 nr55_0_1 ar55_0_2 nr55_0_2 ar55_0_3 nr55_0_3) 26), (sb b50 (AP r42.1 ar42_0_0 nr42_0_0 ar42_0_1 nr42_0_1 ar42_0_2 nr42_0_2 ar42_0_3 nr42_0_3) 26), (sb b29 (Ak r21.1 ar21_0_2 nr21_0_2) 33)]) hr76 => ?_)
 refine Vs 1 ?_
 refine Nss (Rg [0, 1, 2] ?_)
 refine Vs 1 ?_
 obtain ⟨x78, hx79, h81⟩ := bind_some h70
 obtain ⟨hi80, hx79'⟩ := Ay hx79
 obtain ⟨b82, C83, ha84, he85, hE86⟩ := AC.open hr76 hx79'
 cases ha84
 cases he85
 have hc88 := hE86 _ _ hx79'
 refine Ix0 hi80 ?_
 refine RWP.storeRow (ty := 0) (g := none) (by kernel_rfl) rfl (x := (.tmp 42)) (y := (.const (vi 1))) (t := 3) (v := (vi 1)) (gg := false) (b := b71) (j := (0 : Int).toNat) (C := C73) (T := Dr) (E := 3) (u := 1) rfl rfl (by kernel_rfl) hs75 (k := 0) rfl hr76 hx79' rfl rfl (fun C89 w90 (hs91 : HS w0 F0 w90 F4 [(some b71, .cells C89 3 (0, 0)), (sb b63 (AP r55.1 ar55_0_0 nr55_0_0 ar55_0_1 nr55_0_1 ar55_0_2 nr55_0_2 ar55_0_3 nr55_0_3) 26), (sb b50 (AP r42.1 ar42_0_0 nr42_0_0 ar42_0_1 nr42_0_1 ar42_0_2 nr42_0_2 ar42_0_3 nr42_0_3) 26), (sb b29 (Ak r21.1 ar21_0_2 nr21_0_2) 33)]) hr92 => ?_)
 refine Nss (Rg [0, 1, 2, 3, 4, 5, 6, 7] ?_)
 refine Ld hs91.at2 ?_
 refine V 45 47 (mv 12 (.slice (some ⟨b71, 0, none⟩) (r68.set (0 : Int).toNat 1).length n72) (Ov rfl)) ?_
 have hb96 := WZ hr92
 obtain ⟨F5, hs93, le94, hs95⟩ := hs91.fr0 hr92
 obtain ⟨r97, hr98, h99⟩ := bind_some h81
 refine Cl' LN hs93 (M3 N w90 F5 hs93.pers r42.1 ar42_0_0 nr42_0_0 hbr42_0_0 (WL hsr42_0_0 (le61.trans le94)) ar42_0_1 nr42_0_1 hbr42_0_1 (WL hsr42_0_1 (le61.trans le94)) ar42_0_2 nr42_0_2 hbr42_0_2 (WL hsr42_0_2 (le61.trans le94)) ar42_0_3 nr42_0_3 hbr42_0_3 (WL hsr42_0_3 (le61.trans le94)) ((r68.set (0 : Int).toNat 1)) (some ⟨b71, 0, none⟩) n72 hb96 hs95 _ hr98) ?_
 rintro _ F6 w101 hs102 le103 rfl
 refine Vs 5 ?_
 refine Nss (Rg [0, 1, 2, 3, 4, 5, 6, 7, 8] ?_)
 obtain ⟨r105, hr106, h107⟩ := bind_some h99
 refine Cl' Dy hs102 (DI N w101 F6 hs102.pers (hG.mono (((((le27.trans le40).trans le48).trans le61).trans le94).trans le103)) (([105, 102, 40, 98, 97, 110, 100, 32, 61, 32, 98, 97, 110, 100, 44, 32, 48, 32, 43, 32, 122, 111, 110, 101, 44, 32, 55, 41] : W4)) _ hr106) ?_
 rintro _ F7 w109 hs110 le111 ⟨ar105_0_2, nr105_0_2, rfl, hbr105_0_2, hsr105_0_2⟩
 refine Vs 4 ?_
 refine Al' 33 #[(vi 0), (vi 0), (.slice none ([] : List Expr).length 0)] hs110 (fun b113 w114 hs115 => ?_)
 refine St0 (Ak r105.1 ar105_0_2 nr105_0_2) hs115 (fun w116 hs117 => ?_)
 refine Vs 2 ?_
 refine Nss (Rg [0, 1, 2, 3, 4, 5, 6, 7] ?_)
 refine Ld hs117.at0 ?_
 obtain ⟨r118, hr119, h120⟩ := bind_some h107
 refine Cl' Kf hs117 (KO N w116 F7 hs117.pers r105.1 ar105_0_2 nr105_0_2 hbr105_0_2 hsr105_0_2 _ hr119) ?_
 rintro _ F8 w122 hs123 le124 ⟨ar118_0_2, nr118_0_2, rfl, hbr118_0_2, hsr118_0_2⟩
 refine Vs 3 ?_
 refine Al' 33 #[(vi 0), (vi 0), (.slice none ([] : List Expr).length 0)] hs123 (fun b126 w127 hs128 => ?_)
 refine St0 (Ak r118.1 ar118_0_2 nr118_0_2) hs128 (fun w129 hs130 => ?_)
 refine Vs 1 ?_
 refine Nss ?_
 refine Sq (Rg [0, 1, 2, 3, 4, 5, 6, 7, 8, 9, 10, 11, 12, 13, 14, 15, 16, 17, 18, 19, 20, 21, 22, 23, 24, 25, 26, 27, 28, 29] ?_)
 refine WO (fun f w => ∃ (F9 : Mem), HS w0 F0 w F9 [(sb b126 (Ak r118.1 ar118_0_2 nr118_0_2) 33), (sb b29 (Ak r21.1 ar21_0_2 nr21_0_2) 33)] /\ WI F8 F9 /\ FI f [] [(1, (pt b29 0)), (4, (.string ⟨(r34.1).toArray⟩)), (13, (vi r97.1)), (18, (pt b126 0)), (88, (.bool ((r21.2.1 != 0) || ((r34.2 != 0) || ((r42.2.1 != 0) || ((r55.2.1 != 61) || ((r97.2 != 0) || ((r105.2.1 != 0) || ((r118.2 != 0) || (r55.2.2 != 8))))))))))]) ?_ ?_
 ·refine Vs 3 ?_
  refine WN (r21.2.1 != 0) (fun hb140 => ?_) (fun hb140 => ?_)
  ·refine Ss hb140 2 ?_
   refine Pk1 hb140 ?_
   refine Vs 1 ?_
   refine Ss (rfl : true = true) 2 ?_
   refine Pk1 (rfl : true = true) ?_
   refine Vs 1 ?_
   refine Ss (rfl : true = true) 2 ?_
   refine Pk1 (rfl : true = true) ?_
   refine Vs 1 ?_
   refine Ss (rfl : true = true) 2 ?_
   refine Pk1 (rfl : true = true) ?_
   refine Vs 1 ?_
   refine Ss (rfl : true = true) 2 ?_
   refine Pk1 (rfl : true = true) ?_
   refine Vs 1 ?_
   refine Ss (rfl : true = true) 2 ?_
   refine Pk1 (rfl : true = true) ?_
   refine Vs 1 ?_
   refine Ss (rfl : true = true) 2 ?_
   refine Pk1 (rfl : true = true) ?_
   exact WE ⟨rfl, F8, hs130.dr1.dr1.dr1, (WJ _), (fJ ⟨rfl, rfl, rfl, rfl, (congrArg Value.bool (HY hb140 rfl)), trivial⟩)⟩
  ·refine Vgs hb140 2 ?_
   refine Pk0 hb140 ?_
   refine Vs 1 ?_
   refine WN (r34.2 != 0) (fun hb141 => ?_) (fun hb141 => ?_)
   ·refine Ss hb141 2 ?_
    refine Pk1 hb141 ?_
    refine Vs 1 ?_
    refine Ss (rfl : true = true) 2 ?_
    refine Pk1 (rfl : true = true) ?_
    refine Vs 1 ?_
    refine Ss (rfl : true = true) 2 ?_
    refine Pk1 (rfl : true = true) ?_
    refine Vs 1 ?_
    refine Ss (rfl : true = true) 2 ?_
    refine Pk1 (rfl : true = true) ?_
    refine Vs 1 ?_
    refine Ss (rfl : true = true) 2 ?_
    refine Pk1 (rfl : true = true) ?_
    refine Vs 1 ?_
    refine Ss (rfl : true = true) 2 ?_
    refine Pk1 (rfl : true = true) ?_
    exact WE ⟨rfl, F8, hs130.dr1.dr1.dr1, (WJ _), (fJ ⟨rfl, rfl, rfl, rfl, (congrArg Value.bool (C2 hb140 (HY hb141 rfl))), trivial⟩)⟩
   ·refine Vgs hb141 2 ?_
    refine Pk0 hb141 ?_
    refine Vs 1 ?_
    refine WN (r42.2.1 != 0) (fun hb142 => ?_) (fun hb142 => ?_)
    ·refine Ss hb142 2 ?_
     refine Pk1 hb142 ?_
     refine Vs 1 ?_
     refine Ss (rfl : true = true) 2 ?_
     refine Pk1 (rfl : true = true) ?_
     refine Vs 1 ?_
     refine Ss (rfl : true = true) 2 ?_
     refine Pk1 (rfl : true = true) ?_
     refine Vs 1 ?_
     refine Ss (rfl : true = true) 2 ?_
     refine Pk1 (rfl : true = true) ?_
     refine Vs 1 ?_
     refine Ss (rfl : true = true) 2 ?_
     refine Pk1 (rfl : true = true) ?_
     exact WE ⟨rfl, F8, hs130.dr1.dr1.dr1, (WJ _), (fJ ⟨rfl, rfl, rfl, rfl, (congrArg Value.bool (C2 hb140 (C2 hb141 (HY hb142 rfl)))), trivial⟩)⟩
    ·refine Vgs hb142 2 ?_
     refine Pk0 hb142 ?_
     refine Vs 1 ?_
     refine WN (r55.2.1 != 61) (fun hb143 => ?_) (fun hb143 => ?_)
     ·refine Ss hb143 2 ?_
      refine Pk1 hb143 ?_
      refine Vs 1 ?_
      refine Ss (rfl : true = true) 2 ?_
      refine Pk1 (rfl : true = true) ?_
      refine Vs 1 ?_
      refine Ss (rfl : true = true) 2 ?_
      refine Pk1 (rfl : true = true) ?_
      refine Vs 1 ?_
      refine Ss (rfl : true = true) 2 ?_
      refine Pk1 (rfl : true = true) ?_
      exact WE ⟨rfl, F8, hs130.dr1.dr1.dr1, (WJ _), (fJ ⟨rfl, rfl, rfl, rfl, (congrArg Value.bool (C2 hb140 (C2 hb141 (C2 hb142 (HY hb143 rfl))))), trivial⟩)⟩
     ·refine Vgs hb143 2 ?_
      refine Pk0 hb143 ?_
      refine Vs 1 ?_
      refine WN (r97.2 != 0) (fun hb144 => ?_) (fun hb144 => ?_)
      ·refine Ss hb144 2 ?_
       refine Pk1 hb144 ?_
       refine Vs 1 ?_
       refine Ss (rfl : true = true) 2 ?_
       refine Pk1 (rfl : true = true) ?_
       refine Vs 1 ?_
       refine Ss (rfl : true = true) 2 ?_
       refine Pk1 (rfl : true = true) ?_
       exact WE ⟨rfl, F8, hs130.dr1.dr1.dr1, (WJ _), (fJ ⟨rfl, rfl, rfl, rfl, (congrArg Value.bool (C2 hb140 (C2 hb141 (C2 hb142 (C2 hb143 (HY hb144 rfl)))))), trivial⟩)⟩
      ·refine Vgs hb144 2 ?_
       refine Pk0 hb144 ?_
       refine Vs 1 ?_
       refine WN (r105.2.1 != 0) (fun hb145 => ?_) (fun hb145 => ?_)
       ·refine Ss hb145 2 ?_
        refine Pk1 hb145 ?_
        refine Vs 1 ?_
        refine Ss (rfl : true = true) 2 ?_
        refine Pk1 (rfl : true = true) ?_
        exact WE ⟨rfl, F8, hs130.dr1.dr1.dr1, (WJ _), (fJ ⟨rfl, rfl, rfl, rfl, (congrArg Value.bool (C2 hb140 (C2 hb141 (C2 hb142 (C2 hb143 (C2 hb144 (HY hb145 rfl))))))), trivial⟩)⟩
       ·refine Vgs hb145 2 ?_
        refine Pk0 hb145 ?_
        refine Vs 1 ?_
        refine WN (r118.2 != 0) (fun hb146 => ?_) (fun hb146 => ?_)
        ·refine Ss hb146 2 ?_
         refine Pk1 hb146 ?_
         exact WE ⟨rfl, F8, hs130.dr1.dr1.dr1, (WJ _), (fJ ⟨rfl, rfl, rfl, rfl, (congrArg Value.bool (C2 hb140 (C2 hb141 (C2 hb142 (C2 hb143 (C2 hb144 (C2 hb145 (HY hb146 rfl)))))))), trivial⟩)⟩
        ·refine Vgs hb146 2 ?_
         refine Pk0 hb146 ?_
         exact WE ⟨rfl, F8, hs130.dr1.dr1.dr1, (WJ _), (fJ ⟨rfl, rfl, rfl, rfl, (congrArg Value.bool (C2 hb140 (C2 hb141 (C2 hb142 (C2 hb143 (C2 hb144 (C2 hb145 (C2 hb146 rfl)))))))), trivial⟩)⟩
 ·rintro f w131 ⟨F9, hs132, le133, ⟨_, rfl⟩⟩
  refine Ad ?_
  refine Cd h120 (fun hb147 h148 => ?_) (fun hb147 h149 => ?_)
  ·refine Sq (Rg [0] ?_)
   refine Vs 1 ?_
   refine Nt ?_
   refine Rt ?_
   refine Aj ?_
   obtain rfl := Ac h148
   exact Re [(.bool false)] hs132 rfl
  ·refine Sc ?_
   refine Ad ?_
   refine Sq (Rg [0, 1, 2, 3, 4, 5, 6, 7, 8, 9, 10, 11, 12, 13, 14, 15, 16, 17, 18, 19, 20, 21] ?_)
   refine WO (fun f w => ∃ (F10 : Mem), HS w0 F0 w F10 [] /\ WI F9 F10 /\ FI f [] [(0, (.bool ((r21.1.Op == 4) && ((r34.1 == ([49, 32, 43, 32, 50, 32, 42, 32, 51, 32, 61, 32, 55, 32, 97, 110, 100, 32, 110, 111, 116, 32, 98, 97, 110, 100, 32, 60, 32, 50] : W4)) && ((r97.1 == 2) && ((r118.1.Op == 2) && (r118.1.Value == 7)))))))]) ?_ ?_
   ·refine Vs 1 ?_
    refine Ld hs132.at1 ?_
    refine Vs 2 ?_
    refine WN (r21.1.Op == 4) (fun hb155 => ?_) (fun hb155 => ?_)
    ·refine Vgs hb155 2 ?_
     refine Pk1 hb155 ?_
     refine Vs 1 ?_
     refine WN (r34.1 == ([49, 32, 43, 32, 50, 32, 42, 32, 51, 32, 61, 32, 55, 32, 97, 110, 100, 32, 110, 111, 116, 32, 98, 97, 110, 100, 32, 60, 32, 50] : W4)) (fun hb156 => ?_) (fun hb156 => ?_)
     ·refine Vgs hb156 2 ?_
      refine Pk1 hb156 ?_
      refine Vs 1 ?_
      refine WN (r97.1 == 2) (fun hb157 => ?_) (fun hb157 => ?_)
      ·refine Vgs hb157 1 ?_
       refine Lg hb157 hs132.at0 ?_
       refine Vgs hb157 1 ?_
       refine Pk1 hb157 ?_
       refine Vs 1 ?_
       refine WN (r118.1.Op == 2) (fun hb158 => ?_) (fun hb158 => ?_)
       ·refine Vgs hb158 1 ?_
        refine Lg hb158 hs132.at0 ?_
        refine Vgs hb158 1 ?_
        refine Pk1 hb158 ?_
        refine Vs 1 ?_
        exact WE ⟨rfl, F9, hs132.dr0.dr0, (WJ _), (fJ ⟨(congrArg Value.bool (Ey hb155 (Ey hb156 (Ey hb157 (Ey hb158 rfl))))), trivial⟩)⟩
       ·refine Ss hb158 3 ?_
        refine Pk0 hb158 ?_
        refine Vs 1 ?_
        exact WE ⟨rfl, F9, hs132.dr0.dr0, (WJ _), (fJ ⟨(congrArg Value.bool (Ey hb155 (Ey hb156 (Ey hb157 (GJ hb158 rfl))))), trivial⟩)⟩
      ·refine Ss hb157 3 ?_
       refine Pk0 hb157 ?_
       refine Vs 1 ?_
       refine Ss (rfl : false = false) 3 ?_
       refine Pk0 (rfl : false = false) ?_
       refine Vs 1 ?_
       exact WE ⟨rfl, F9, hs132.dr0.dr0, (WJ _), (fJ ⟨(congrArg Value.bool (Ey hb155 (Ey hb156 (GJ hb157 rfl)))), trivial⟩)⟩
     ·refine Ss hb156 2 ?_
      refine Pk0 hb156 ?_
      refine Vs 1 ?_
      refine Ss (rfl : false = false) 3 ?_
      refine Pk0 (rfl : false = false) ?_
      refine Vs 1 ?_
      refine Ss (rfl : false = false) 3 ?_
      refine Pk0 (rfl : false = false) ?_
      refine Vs 1 ?_
      exact WE ⟨rfl, F9, hs132.dr0.dr0, (WJ _), (fJ ⟨(congrArg Value.bool (Ey hb155 (GJ hb156 rfl))), trivial⟩)⟩
    ·refine Ss hb155 2 ?_
     refine Pk0 hb155 ?_
     refine Vs 1 ?_
     refine Ss (rfl : false = false) 2 ?_
     refine Pk0 (rfl : false = false) ?_
     refine Vs 1 ?_
     refine Ss (rfl : false = false) 3 ?_
     refine Pk0 (rfl : false = false) ?_
     refine Vs 1 ?_
     refine Ss (rfl : false = false) 3 ?_
     refine Pk0 (rfl : false = false) ?_
     refine Vs 1 ?_
     exact WE ⟨rfl, F9, hs132.dr0.dr0, (WJ _), (fJ ⟨(congrArg Value.bool (GJ hb155 rfl)), trivial⟩)⟩
   ·rintro f w150 ⟨F10, hs151, le152, ⟨_, rfl⟩⟩
    refine Ad ?_
    refine Rt ?_
    obtain rfl := Ac h149
    exact Re [(.bool ((r21.1.Op == 4) && ((r34.1 == ([49, 32, 43, 32, 50, 32, 42, 32, 51, 32, 61, 32, 55, 32, 97, 110, 100, 32, 110, 111, 116, 32, 98, 97, 110, 100, 32, 60, 32, 50] : W4)) && ((r97.1 == 2) && ((r118.1.Op == 2) && (r118.1.Value == 7))))))] hs151 rfl
set_option maxRecDepth 100000 in
theorem SA : J1 9223372036854775808 = some true := by kernel_rfl
def GE (_N : Nat) : Option Bool := some true
theorem MX : As Tryz.prog 21 := LO
theorem Nq (N : Nat) (w0 : World) (F0 : Mem) (hF : W6 w0 F0) (hG : DD F0) (r : Bool) (h : GE N = some r) :
  Calls Tryz.prog 21 ([] : List Value).toArray w0 (Bh w0 F0 fun F' v => v = (.bool r)) := by
 cases h
 exact M4 9223372036854775808 w0 F0 hF hG true SA


section
variable {N : Nat} {σ : Type}
def hit (l : List Clause) (d : List UL) (k : Int) : Bool := (Vy d).any fun f => fi (isT f) l == k
noncomputable def mx (e : Expr) (d : List UL) : Int := (Vy d).foldl (fun a f => max a (val f e)) (-1000000)
end



def dN (e : Expr) : Nat := match e with
 | ⟨_, _, ks⟩ => 1 + (ks.map fun x => dN x).foldl max 0
theorem Ry (e : Expr) : dN e = 1 + (e.Kids.map dN).foldl max 0 := by cases e; rw [dN]
theorem FV (e : Expr) : 0 < sz e := by rw [L8]; omega
theorem TQ (e : Expr) : 0 < dN e := by rw [Ry]; omega





section
variable {N : Nat}
theorem IG {e : Expr} (h : HM e = true) : kd e ≠ 0 := by unfold HM at h; simp at h; exact h.2
end
theorem PG : ∀ (n : Nat) (e : Expr), sz e <= n -> dN e <= sz e
 | 0, e, h => by have := FV e; omega
 | n + 1, e, h => by
  rw [Ry, L8 e]
  have : ∀ (l : List Expr) (a b : Nat), a <= b -> (∀ x, x ∈ l -> x ∈ e.Kids) -> (l.map dN).foldl max a <= b + (l.map sz).sum := by
   intro l
   induction l with
   | nil => intro a b hab _; simpa using hab
   | cons x l ih =>
    intro a b hab hl
    have hx := hl x (by simp)
    have h2 := PG n x (by have := D7 hx; omega)
    have := ih (max a (dN x)) (b + sz x) (by omega) (fun y hy => hl y (by simp [hy]))
    rw [List.map_cons, List.foldl_cons, List.map_cons, List.sum_cons]
    omega
  have := this e.Kids 0 0 (Nat.le_refl _) (fun _ h => h)
  omega
theorem UX : ∀ (n : Nat) (e : Expr), sz e <= n -> sz e < 4294967296 -> dp e = (dN e : Int)
 | 0, e, h, _ => by have := FV e; omega
 | n + 1, e, h, h2 => by
  have hd := PG _ e (Nat.le_refl _)
  rw [TK]
  have : ∀ (l : List Expr) (a : Nat), (∀ x, x ∈ l -> x ∈ e.Kids) -> l.foldl (fun s x => max s (dp x)) (a : Int) = (((l.map dN).foldl max a : Nat) : Int) := by
   intro l
   induction l with
   | nil => intro a _; rfl
   | cons x l ih =>
    intro a hl
    have hx := D7 (hl x (by simp))
    rw [List.foldl_cons, List.map_cons, List.foldl_cons, UX n x (by omega) (by omega), <- ih _ (fun y hy => hl y (by simp [hy]))]
    congr 1; omega
  have := this e.Kids 0 (fun _ h => h)
  rw [show ((0 : Nat) : Int) = 0 from rfl] at this
  rw [this]
  rw [Ry] at hd ⊢
  rw [SD (by omega) (by omega)]; omega
def JS (N : Nat)  : Option (List W4) :=
 some [([98, 97, 110, 100] : W4), ([109, 111, 100, 101] : W4), ([104, 111, 117, 114] : W4), ([109, 121, 99, 111, 117, 110, 116, 114, 121] : W4), ([109, 121, 122, 111, 110, 101] : W4), ([109, 121, 99, 111, 110, 116, 105, 110, 101, 110, 116] : W4), ([99, 111, 117, 110, 116, 114, 121] : W4), ([122, 111, 110, 101] : W4), ([99, 111, 110, 116, 105, 110, 101, 110, 116] : W4), ([99, 97, 108, 108] : W4), ([103, 111, 116, 122, 111, 110, 101] : W4), ([99, 97, 116, 101, 103, 111, 114, 121] : W4), ([112, 111, 119, 101, 114] : W4), ([115, 116, 97, 116, 117, 115] : W4)]





def AF (N : Nat) (x0 : Aa) (x1 : W4) : Option Bool :=
 (((idx x0.L x0.At).bind fun x33 => some (x33.Kind, x33.At, x33.Text)).bind fun j27 => some (bif (j27.1 == 2) then (j27.2.2 == x1) else ((j27.1 == 3) && (j27.2.2 == x1))))
def Gg (N : Nat) (x0 : Int) (x1 : Expr) (x2 : Expr) : Option Expr :=
 some ({ Op := x0, Value := 0, Kids := [x1, x2] } : Expr)

def B5 (N : Nat) (sR186 : Aa -> Option (Aa × Expr)) (x0 : Aa) (r24 : (Aa × Expr)) : (Int × Int × List Expr × List Ae × Int × Int × Int × Int) -> Option (Be (Aa × Expr) (Int × Int × List Expr × List Ae × Int × Int × Int × Int)) := fun s39 =>
 ((bif (s39.2.2.2.2.2.2.1 == 0) then ((AF N ({ L := s39.2.2.2.1, At := s39.2.2.2.2.1, Open := s39.2.2.2.2.2.1, Bad := s39.2.2.2.2.2.2.1, Where := s39.2.2.2.2.2.2.2 } : Aa) ([97, 110, 100] : W4)).bind fun r74 => some r74) else some false).bind fun j63 => (bif j63 then ((sR186 ({ L := s39.2.2.2.1, At := (W64 (s39.2.2.2.2.1 + 1)), Open := s39.2.2.2.2.2.1, Bad := s39.2.2.2.2.2.2.1, Where := s39.2.2.2.2.2.2.2 } : Aa)).bind fun r86 => ((Gg N 4 ({ Op := s39.1, Value := s39.2.1, Kids := s39.2.2.1 } : Expr) r86.2).bind fun r98 => some (.next (r98.Op, r98.Value, r98.Kids, r86.1.L, r86.1.At, r86.1.Open, r86.1.Bad, r86.1.Where)))) else some (.done (s39.1, s39.2.1, s39.2.2.1, s39.2.2.2.1, s39.2.2.2.2.1, s39.2.2.2.2.2.1, s39.2.2.2.2.2.2.1, s39.2.2.2.2.2.2.2))))
def D4 (N : Nat) (sR186 : Aa -> Option (Aa × Expr)) (x0 : Aa) : Option (Aa × Expr) :=
 ((sR186 x0).bind fun r24 => ((AL (B5 N sR186 x0 r24) N (r24.2.Op, r24.2.Value, r24.2.Kids, r24.1.L, r24.1.At, r24.1.Open, r24.1.Bad, r24.1.Where)).bind fun o => o.k (fun r => some r) (fun s47 => some (({ L := s47.2.2.2.1, At := s47.2.2.2.2.1, Open := s47.2.2.2.2.2.1, Bad := s47.2.2.2.2.2.2.1, Where := s47.2.2.2.2.2.2.2 } : Aa), ({ Op := s47.1, Value := s47.2.1, Kids := s47.2.2.1 } : Expr)))))
def CG (N : Nat) (sR186 : Aa -> Option (Aa × Expr)) (sR213 : Aa -> Option (Aa × Expr)) (x0 : Aa) : Option (Aa × Expr) :=
 ((bif (x0.Bad == 0) then ((AF N x0 ([110, 111, 116] : W4)).bind fun r37 => some r37) else some false).bind fun j27 => (bif j27 then ((sR186 ({ L := x0.L, At := (W64 (x0.At + 1)), Open := x0.Open, Bad := x0.Bad, Where := x0.Where } : Aa)).bind fun r49 => some (r49.1, ({ Op := 3, Value := 0, Kids := [r49.2] } : Expr))) else ((sR213 x0).bind fun r72 => some (r72.1, r72.2))))
def CF (N : Nat) (sR227 : Aa -> Option (Aa × Expr)) (x0 : Aa) : Option (Aa × Expr) :=
 ((sR227 x0).bind fun r24 => ((bif (r24.1.Bad == 0) then ((AF N r24.1 ([61] : W4)).bind fun r50 => (bif r50 then some true else ((AF N r24.1 ([60] : W4)).bind fun r60 => some r60))) else some false).bind fun j39 => (bif j39 then ((AF N r24.1 ([61] : W4)).bind fun r70 => ((sR227 ({ L := r24.1.L, At := (W64 (r24.1.At + 1)), Open := r24.1.Open, Bad := r24.1.Bad, Where := r24.1.Where } : Aa)).bind fun r88 => ((Gg N (bif r70 then 6 else 7) r24.2 r88.2).bind fun r100 => some (r88.1, r100)))) else some (r24.1, r24.2))))
def Cf (N : Nat) (sR234 : Aa -> Option (Aa × Expr)) (x0 : Aa) (r24 : (Aa × Expr)) : (Int × Int × List Expr × List Ae × Int × Int × Int × Int) -> Option (Be (Aa × Expr) (Int × Int × List Expr × List Ae × Int × Int × Int × Int)) := fun s39 =>
 ((bif (s39.2.2.2.2.2.2.1 == 0) then ((AF N ({ L := s39.2.2.2.1, At := s39.2.2.2.2.1, Open := s39.2.2.2.2.2.1, Bad := s39.2.2.2.2.2.2.1, Where := s39.2.2.2.2.2.2.2 } : Aa) ([43] : W4)).bind fun r74 => (bif r74 then some true else ((AF N ({ L := s39.2.2.2.1, At := s39.2.2.2.2.1, Open := s39.2.2.2.2.2.1, Bad := s39.2.2.2.2.2.2.1, Where := s39.2.2.2.2.2.2.2 } : Aa) ([45] : W4)).bind fun r84 => some r84))) else some false).bind fun j63 => (bif j63 then ((AF N ({ L := s39.2.2.2.1, At := s39.2.2.2.2.1, Open := s39.2.2.2.2.2.1, Bad := s39.2.2.2.2.2.2.1, Where := s39.2.2.2.2.2.2.2 } : Aa) ([43] : W4)).bind fun r94 => ((sR234 ({ L := s39.2.2.2.1, At := (W64 (s39.2.2.2.2.1 + 1)), Open := s39.2.2.2.2.2.1, Bad := s39.2.2.2.2.2.2.1, Where := s39.2.2.2.2.2.2.2 } : Aa)).bind fun r112 => ((Gg N (bif r94 then 8 else 9) ({ Op := s39.1, Value := s39.2.1, Kids := s39.2.2.1 } : Expr) r112.2).bind fun r124 => some (.next (r124.Op, r124.Value, r124.Kids, r112.1.L, r112.1.At, r112.1.Open, r112.1.Bad, r112.1.Where))))) else some (.done (s39.1, s39.2.1, s39.2.2.1, s39.2.2.2.1, s39.2.2.2.2.1, s39.2.2.2.2.2.1, s39.2.2.2.2.2.2.1, s39.2.2.2.2.2.2.2))))
def Es (N : Nat) (sR234 : Aa -> Option (Aa × Expr)) (x0 : Aa) : Option (Aa × Expr) :=
 ((sR234 x0).bind fun r24 => ((AL (Cf N sR234 x0 r24) N (r24.2.Op, r24.2.Value, r24.2.Kids, r24.1.L, r24.1.At, r24.1.Open, r24.1.Bad, r24.1.Where)).bind fun o => o.k (fun r => some r) (fun s47 => some (({ L := s47.2.2.2.1, At := s47.2.2.2.2.1, Open := s47.2.2.2.2.2.1, Bad := s47.2.2.2.2.2.2.1, Where := s47.2.2.2.2.2.2.2 } : Aa), ({ Op := s47.1, Value := s47.2.1, Kids := s47.2.2.1 } : Expr)))))
def B3 (N : Nat) (sR240 : Aa -> Option (Aa × Expr)) (x0 : Aa) (r24 : (Aa × Expr)) : (Int × Int × List Expr × List Ae × Int × Int × Int × Int) -> Option (Be (Aa × Expr) (Int × Int × List Expr × List Ae × Int × Int × Int × Int)) := fun s39 =>
 ((bif (s39.2.2.2.2.2.2.1 == 0) then ((AF N ({ L := s39.2.2.2.1, At := s39.2.2.2.2.1, Open := s39.2.2.2.2.2.1, Bad := s39.2.2.2.2.2.2.1, Where := s39.2.2.2.2.2.2.2 } : Aa) ([42] : W4)).bind fun r74 => some r74) else some false).bind fun j63 => (bif j63 then ((sR240 ({ L := s39.2.2.2.1, At := (W64 (s39.2.2.2.2.1 + 1)), Open := s39.2.2.2.2.2.1, Bad := s39.2.2.2.2.2.2.1, Where := s39.2.2.2.2.2.2.2 } : Aa)).bind fun r86 => ((Gg N 10 ({ Op := s39.1, Value := s39.2.1, Kids := s39.2.2.1 } : Expr) r86.2).bind fun r98 => some (.next (r98.Op, r98.Value, r98.Kids, r86.1.L, r86.1.At, r86.1.Open, r86.1.Bad, r86.1.Where)))) else some (.done (s39.1, s39.2.1, s39.2.2.1, s39.2.2.2.1, s39.2.2.2.2.1, s39.2.2.2.2.2.1, s39.2.2.2.2.2.2.1, s39.2.2.2.2.2.2.2))))
def D2 (N : Nat) (sR240 : Aa -> Option (Aa × Expr)) (x0 : Aa) : Option (Aa × Expr) :=
 ((sR240 x0).bind fun r24 => ((AL (B3 N sR240 x0 r24) N (r24.2.Op, r24.2.Value, r24.2.Kids, r24.1.L, r24.1.At, r24.1.Open, r24.1.Bad, r24.1.Where)).bind fun o => o.k (fun r => some r) (fun s47 => some (({ L := s47.2.2.2.1, At := s47.2.2.2.2.1, Open := s47.2.2.2.2.2.1, Bad := s47.2.2.2.2.2.2.1, Where := s47.2.2.2.2.2.2.2 } : Aa), ({ Op := s47.1, Value := s47.2.1, Kids := s47.2.2.1 } : Expr)))))
def A5 (N : Nat) (x0 : Aa) (x1 : Int) (x2 : Int) : Option Aa :=
 ((bif (x0.Bad == 0) then some (x1, x2) else some (x0.Bad, x0.Where)).bind fun j24 => some ({ L := x0.L, At := x0.At, Open := x0.Open, Bad := j24.1, Where := j24.2 } : Aa))
def Az (N : Nat) (x0 : Aa) (x1 : W4) : Option Aa :=
 (bif (x0.Bad != 0) then some x0 else ((AF N x0 x1).bind fun r24 => (bif (!r24) then (((idx x0.L x0.At).bind fun x43 => ((A5 N x0 60 x43.At).bind fun r57 => some (r57.L, r57.At, r57.Open, r57.Bad, r57.Where))).bind fun j39 => some ({ L := j39.1, At := j39.2.1, Open := j39.2.2.1, Bad := j39.2.2.2.1, Where := j39.2.2.2.2 } : Aa)) else some ({ L := x0.L, At := (W64 (x0.At + 1)), Open := x0.Open, Bad := x0.Bad, Where := x0.Where } : Aa))))
def BW (N : Nat) (x0 : Aa) : Option Aa :=
 ((bif (x0.Bad == 0) then ((AF N x0 ([40] : W4)).bind fun r33 => (bif r33 then some (x0.Open == 32) else some false)) else some false).bind fun j24 => ((bif j24 then (((idx x0.L x0.At).bind fun x64 => ((A5 N x0 2 x64.At).bind fun r78 => some (r78.L, r78.At, r78.Open, r78.Bad, r78.Where))).bind fun j59 => some (j59.1, j59.2.1, j59.2.2.1, j59.2.2.2.1, j59.2.2.2.2)) else some (x0.L, x0.At, x0.Open, x0.Bad, x0.Where)).bind fun j46 => ((Az N ({ L := j46.1, At := j46.2.1, Open := j46.2.2.1, Bad := j46.2.2.2.1, Where := j46.2.2.2.2 } : Aa) ([40] : W4)).bind fun r106 => some ({ L := r106.L, At := r106.At, Open := (W64 (r106.Open + 1)), Bad := r106.Bad, Where := r106.Where } : Aa))))
def BV (N : Nat) (x0 : Aa) : Option Aa :=
 ((Az N x0 ([41] : W4)).bind fun r21 => some ({ L := r21.L, At := r21.At, Open := (W64 (r21.Open - 1)), Bad := r21.Bad, Where := r21.Where } : Aa))
def BL (N : Nat) (sR89 : Aa -> Option (Aa × Expr)) (x0 : Aa) (j35 : (Int × Int × W4)) (j64 : Bool) (r106 : (List W4)) : Int -> Option (Be (Aa × Expr) Int) := fun s117 =>
 (bif (decide (s117 < (r106.length : Int))) then ((bif (j35.1 == 2) then ((idx r106 s117).bind fun x161 => some (j35.2.2 == x161)) else some false).bind fun j148 => (bif j148 then some (.ret (({ L := x0.L, At := (W64 (x0.At + 1)), Open := x0.Open, Bad := x0.Bad, Where := x0.Where } : Aa), ({ Op := 2, Value := s117, Kids := ([] : List Expr) } : Expr))) else some (.next (W64 (s117 + 1))))) else some (.done s117))
def BR (N : Nat) (sR89 : Aa -> Option (Aa × Expr)) (x0 : Aa) : Option (Aa × Expr) :=
 (bif (x0.Bad != 0) then some (x0, ({ Op := 0, Value := 0, Kids := ([] : List Expr) } : Expr)) else (((idx x0.L x0.At).bind fun x42 => some (x42.Kind, x42.At, x42.Text)).bind fun j35 => ((bif (j35.1 == 1) then ((CZ N j35.2.2).bind fun r75 => some (decide (r75 >= 0))) else some false).bind fun j64 => (bif j64 then ((CZ N j35.2.2).bind fun r88 => ((Oc N r88).bind fun r96 => some (({ L := x0.L, At := (W64 (x0.At + 1)), Open := x0.Open, Bad := x0.Bad, Where := x0.Where } : Aa), r96))) else ((JS N ).bind fun r106 => ((AL (BL N sR89 x0 j35 j64 r106) N 0).bind fun o => o.k (fun r => some r) (fun s127 => ((AF N x0 ([40] : W4)).bind fun r185 => (bif r185 then ((BW N x0).bind fun r195 => ((sR89 r195).bind fun r202 => ((BV N r202.1).bind fun r214 => some (r214, r202.2)))) else ((Az N x0 ([105, 102] : W4)).bind fun r223 => ((BW N r223).bind fun r230 => ((sR89 r230).bind fun r237 => ((Az N r237.1 ([44] : W4)).bind fun r249 => ((sR89 r249).bind fun r256 => ((Az N r256.1 ([44] : W4)).bind fun r268 => ((sR89 r268).bind fun r275 => ((BV N r275.1).bind fun r288 => some (r288, ({ Op := 11, Value := 0, Kids := [r237.2, r256.2, r275.2] } : Expr)))))))))))))))))))
def B4 (N : Nat) (sR146 : Aa -> Option (Aa × Expr)) (x0 : Aa) (r24 : (Aa × Expr)) : (Int × Int × List Expr × List Ae × Int × Int × Int × Int) -> Option (Be (Aa × Expr) (Int × Int × List Expr × List Ae × Int × Int × Int × Int)) := fun s39 =>
 ((bif (s39.2.2.2.2.2.2.1 == 0) then ((AF N ({ L := s39.2.2.2.1, At := s39.2.2.2.2.1, Open := s39.2.2.2.2.2.1, Bad := s39.2.2.2.2.2.2.1, Where := s39.2.2.2.2.2.2.2 } : Aa) ([111, 114] : W4)).bind fun r74 => some r74) else some false).bind fun j63 => (bif j63 then ((sR146 ({ L := s39.2.2.2.1, At := (W64 (s39.2.2.2.2.1 + 1)), Open := s39.2.2.2.2.2.1, Bad := s39.2.2.2.2.2.2.1, Where := s39.2.2.2.2.2.2.2 } : Aa)).bind fun r86 => ((Gg N 5 ({ Op := s39.1, Value := s39.2.1, Kids := s39.2.2.1 } : Expr) r86.2).bind fun r98 => some (.next (r98.Op, r98.Value, r98.Kids, r86.1.L, r86.1.At, r86.1.Open, r86.1.Bad, r86.1.Where)))) else some (.done (s39.1, s39.2.1, s39.2.2.1, s39.2.2.2.1, s39.2.2.2.2.1, s39.2.2.2.2.2.1, s39.2.2.2.2.2.2.1, s39.2.2.2.2.2.2.2))))
def D3 (N : Nat) (sR146 : Aa -> Option (Aa × Expr)) (x0 : Aa) : Option (Aa × Expr) :=
 ((sR146 x0).bind fun r24 => ((AL (B4 N sR146 x0 r24) N (r24.2.Op, r24.2.Value, r24.2.Kids, r24.1.L, r24.1.At, r24.1.Open, r24.1.Bad, r24.1.Where)).bind fun o => o.k (fun r => some r) (fun s47 => some (({ L := s47.2.2.2.1, At := s47.2.2.2.2.1, Open := s47.2.2.2.2.2.1, Bad := s47.2.2.2.2.2.2.1, Where := s47.2.2.2.2.2.2.2 } : Aa), ({ Op := s47.1, Value := s47.2.1, Kids := s47.2.2.1 } : Expr)))))
structure Wi where
 q89 : Aa -> Option (Aa × Expr)
 q146 : Aa -> Option (Aa × Expr)
 q186 : Aa -> Option (Aa × Expr)
 q213 : Aa -> Option (Aa × Expr)
 q227 : Aa -> Option (Aa × Expr)
 q234 : Aa -> Option (Aa × Expr)
 q240 : Aa -> Option (Aa × Expr)
def CQ (N : Nat) : Nat -> Wi
 | 0 => ⟨fun _ => none, fun _ => none, fun _ => none, fun _ => none, fun _ => none, fun _ => none, fun _ => none⟩
 | k + 1 => ⟨D3 N (CQ N k).q146, D4 N (CQ N k).q186, CG N (CQ N k).q186 (CQ N k).q213, CF N (CQ N k).q227, Es N (CQ N k).q234, D2 N (CQ N k).q240, BR N (CQ N k).q89⟩
def BI (N : Nat) (x0 : Aa) : Option (Aa × Expr) := (CQ N N).q89 x0
def PS (Lr : List Ah) (i : Nat) (o : Int) : Ab := ⟨Lr.drop i, o⟩
def RB (Lf : List Ae) (i : Nat) (o e w : Int) : Aa := ⟨Lf, (i : Int), o, e, w⟩
abbrev RS (Lf : List Ae) (i : Nat) (o : Int) : Aa := RB Lf i o 0 0
def Se (Lf : List Ae) (i : Nat) (t : W4) : Bool := match Lf[i]? with
 | some b => seeF b t
 | none => false
def atI (Lf : List Ae) (i : Nat) : Int := match Lf[i]? with
 | some b => b.At
 | none => 0
section
variable {N n : Nat} {Lr : List Ah} {Lf : List Ae} (T : Gw n Lr Lf)
include T
theorem Gw.hd {i : Nat} (hi : i < n) : ∃ a b, Lr[i]? = some a /\ Lf[i]? = some b /\ idx (Lr.drop i) 0 = some a /\ idx Lf (i : Int) = some b /\ ((QK a b /\ i + 1 < n) \/ (SE a b /\ i + 1 = n)) /\ a.at_ = b.At := by
 have h1 : i < Lr.length := by have := T.lr; omega
 have h2 : i < Lf.length := by have := T.lf; omega
 refine ⟨Lr[i], Lf[i], List.getElem?_eq_getElem h1, List.getElem?_eq_getElem h2, ?_, Dd h2, ?_, ?_⟩
 ·show idx (Lr.drop i) ((0 : Nat) : Int) = _
  rw [EK, List.getElem?_drop, Nat.add_zero, List.getElem?_eq_getElem h1]
 ·by_cases h : i + 1 < n
  ·exact .inl ⟨T.c i h1 h2 h, h⟩
  ·exact .inr ⟨T.e i h1 h2 (by omega), by omega⟩
 ·by_cases h : i + 1 < n
  ·exact (T.c i h1 h2 h).at_
  ·exact (T.e i h1 h2 (by omega)).at_
theorem Gw.see {i : Nat} {a : Ah} (ha : Lr[i]? = some a) (hi : i < n) {t : W4} (ht : t ≠ [10]) : seeR a t = Se Lf i t := by
 obtain ⟨a', b, h1, h2, _, _, h5, _⟩ := T.hd hi
 rw [h1] at ha; cases ha
 unfold Se
 rw [h2]
 rcases h5 with ⟨h, _⟩ | ⟨h, _⟩
 ·exact h.see ht
 ·rw [h.seeR]; exact (h.seeF t).symm
theorem Gw.lt {i : Nat} {t : W4} (hi : i < n) (h : Se Lf i t = true) : i + 1 < n := by
 obtain ⟨a, b, _, h2, _, _, h5, _⟩ := T.hd hi
 rcases h5 with ⟨_, h5⟩ | ⟨h5, _⟩
 ·exact h5
 ·unfold Se at h; rw [h2] at h; simp only [h5.seeF] at h; cases h
theorem Mx {i : Nat} (hi : i < n) (o : Int) (t : W4) {a : Ah} (ha : Lr[i]? = some a) : AH N (PS Lr i o) t = some (seeR a t) := by
 obtain ⟨a', b, h1, _, h3, _, _, _⟩ := T.hd hi
 rw [h1] at ha; cases ha
 unfold AH PS seeR
 simp only [h3, Option.bind_some]
 cases h2 : (a.kind_ == 2) <;> cases h3 : (a.kind_ == 3) <;> simp
theorem On {i : Nat} (hi : i < n) (o : Int) {t : W4} (ht : t ≠ [10]) : AH N (PS Lr i o) t = some (Se Lf i t) := by
 obtain ⟨a, b, h1, _⟩ := T.hd hi
 rw [Mx T hi o t h1, T.see h1 hi ht]
theorem ES {i : Nat} (hi : i < n) (o e w : Int) (t : W4) : AF N (RB Lf i o e w) t = some (Se Lf i t) := by
 obtain ⟨a, b, _, h2, _, h4, _, _⟩ := T.hd hi
 unfold AF RB Se
 simp only [h4, Option.bind_some, h2]
 unfold seeF
 cases hk2 : (b.Kind == 2) <;> cases hk3 : (b.Kind == 3) <;> simp
theorem L9 {i : Nat} (hi : i < n) : sub (Lr.drop i) 1 ((Lr.drop i).length : Int) = some (Lr.drop (i + 1)) := by
 have := T.lr
 unfold sub
 rw [if_pos ⟨by omega, by rw [List.length_drop]; omega, by omega⟩, Int.toNat_natCast, List.take_length]
 show some (List.drop 1 (List.drop i Lr)) = _
 rw [List.drop_drop, Nat.add_comm]
theorem CT {i : Nat} (hi : i < n) (o : Int) (t : W4) {a : Ah} (ha : Lr[i]? = some a) : Ap N (PS Lr i o) t = some (bif seeR a t then (PS Lr (i + 1) o, true) else (PS Lr i o, false)) := by
 unfold Ap
 rw [Mx T hi o t ha, Option.bind_some]
 cases seeR a t with
 | false => rfl
 | true =>
  simp only [Bool.not_true, cond_false, cond_true]
  rw [show (PS Lr i o).l_ = Lr.drop i from rfl, L9 T hi]; rfl
theorem Bg {i : Nat} (hi : i < n) (o : Int) {t : W4} (ht : t ≠ [10]) : Ap N (PS Lr i o) t = some (bif Se Lf i t then (PS Lr (i + 1) o, true) else (PS Lr i o, false)) := by
 obtain ⟨a, b, h1, _⟩ := T.hd hi
 rw [CT T hi o t h1, T.see h1 hi ht]
theorem JY {i : Nat} (o e w : Int) : A5 N (RS Lf i o) e w = some (RB Lf i o e w) := rfl
theorem zW1 {i : Nat} (hi : i < n) : W64 ((i : Int) + 1) = ((i + 1 : Nat) : Int) := by
 have := T.small
 exact B7 (by omega)
theorem GS {i : Nat} (hi : i < n) (o : Int) (t : W4) : Az N (RS Lf i o) t = some (bif Se Lf i t then RS Lf (i + 1) o else RB Lf i o 60 (atI Lf i)) := by
 obtain ⟨a, b, _, h2, _, h4, _, _⟩ := T.hd hi
 unfold Az
 rw [show ((RS Lf i o).Bad != 0) = false from rfl, cond_false, ES T hi, Option.bind_some]
 have e : (RS Lf i o).At = (i : Int) := rfl
 have e2 : (RS Lf i o).L = Lf := rfl
 cases hs : Se Lf i t with
 | true => simp only [Bool.not_true, cond_false, cond_true, e, zW1 T hi]; rfl
 | false =>
  simp only [Bool.not_false, cond_true, cond_false, e, e2, h4, Option.bind_some]
  rw [JY T]
  unfold atI
  rw [h2]; rfl
theorem E1 {i : Nat} {o e w : Int} (he : e ≠ 0) (t : W4) : Az N (RB Lf i o e w) t = some (RB Lf i o e w) := by
 unfold Az
 rw [show ((RB Lf i o e w).Bad != 0) = true by show (e != 0) = true; simpa using he]; rfl
theorem DA {i : Nat} (hi : i < n) (o : Int) {t : W4} (ht : t ≠ [10]) : Ax N (PS Lr i o) t = some (bif Se Lf i t then .inr (PS Lr (i + 1) o) else .inl ⟨60, atI Lf i⟩) := by
 obtain ⟨a, b, h1, h2, h3, h4, _, h6⟩ := T.hd hi
 unfold Ax
 rw [Bg T hi o ht, Option.bind_some]
 cases hs : Se Lf i t with
 | true => rfl
 | false =>
  simp only [cond_false, Bool.not_false, cond_true]
  rw [show (PS Lr i o).l_ = Lr.drop i from rfl, h3, Option.bind_some]
  unfold atI
  rw [h2, h6]; rfl
theorem J0 {i : Nat} (hi : i < n) {o : Int} (h0 : 0 <= o) (h32 : o <= 32) : BK N (PS Lr i o) = some (bif Se Lf i [40] then (if o = 32 then .inl ⟨2, atI Lf i⟩ else .inr (PS Lr (i + 1) (o + 1))) else .inl ⟨60, atI Lf i⟩) := by
 obtain ⟨a, b, h1, h2, h3, h4, _, h6⟩ := T.hd hi
 unfold BK
 rw [show (PS Lr i o).l_ = Lr.drop i from rfl, h3, Option.bind_some, On T hi o (by decide), Option.bind_some, DA T hi o (by decide)]
 have ea : a.at_ = atI Lf i := by unfold atI; rw [h2, h6]
 cases hs : Se Lf i [40] with
 | false => rfl
 | true =>
  simp only [cond_true, Option.bind_some]
  rw [show (PS Lr i o).open_ = o from rfl]
  by_cases h : o = 32
  ·rw [if_pos h, show (o == 32) = true by simpa using h, cond_true, ea]; rfl
  ·rw [if_neg h, show (o == 32) = false by simpa using h, cond_false]
   simp only [sk]
   rw [show (PS Lr (i + 1) o).open_ = o from rfl, JD (by omega) (by omega)]; rfl
theorem Tl {i : Nat} (hi : i < n) {o : Int} (h0 : 0 <= o) (h32 : o <= 32) : BW N (RS Lf i o) = some (bif Se Lf i [40] then (if o = 32 then RB Lf i 33 2 (atI Lf i) else RS Lf (i + 1) (o + 1)) else RB Lf i (o + 1) 60 (atI Lf i)) := by
 obtain ⟨a, b, h1, h2, h3, h4, _, h6⟩ := T.hd hi
 unfold BW
 have ea : b.At = atI Lf i := by unfold atI; rw [h2]
 have e : (RS Lf i o).At = (i : Int) := rfl
 have e2 : (RS Lf i o).L = Lf := rfl
 have e3 : (RS Lf i o).Open = o := rfl
 rw [show ((RS Lf i o).Bad == 0) = true from rfl, cond_true, ES T hi, Option.bind_some, e3]
 have ew : W64 (o + 1) = o + 1 := JD (by omega) (by omega)
 cases hs : Se Lf i [40] with
 | false =>
  simp only [cond_false, Option.bind_some]
  show ((Az N (RS Lf i o) [40]).bind _) = _
  rw [GS T hi, hs]
  simp only [cond_false, Option.bind_some]
  show some (RB Lf i (W64 (o + 1)) 60 (atI Lf i)) = _
  rw [ew]
 | true =>
  simp only [cond_true, Option.bind_some]
  by_cases h : o = 32
  ·rw [if_pos h, show (o == 32) = true by simpa using h, cond_true, e, e2, h4]
   simp only [Option.bind_some]
   rw [JY T]
   simp only [Option.bind_some]
   show ((Az N (RB Lf i o 2 b.At) [40]).bind _) = _
   rw [E1 T (by decide), Option.bind_some, ea]
   show some (RB Lf i (W64 (o + 1)) 2 (atI Lf i)) = _
   rw [ew, h]; rfl
  ·rw [if_neg h, show (o == 32) = false by simpa using h, cond_false]
   simp only [Option.bind_some]
   show ((Az N (RS Lf i o) [40]).bind _) = _
   rw [GS T hi, hs]
   simp only [cond_true, Option.bind_some]
   show some (RB Lf (i + 1) (W64 (o + 1)) 0 0) = _
   rw [ew]
theorem JZ {i : Nat} (hi : i < n) {o : Int} (h0 : 0 <= o) (h32 : o <= 33) : BJ N (PS Lr i o) = some (bif Se Lf i [41] then .inr (PS Lr (i + 1) (o - 1)) else .inl ⟨60, atI Lf i⟩) := by
 unfold BJ
 rw [DA T hi o (by decide), Option.bind_some]
 cases hs : Se Lf i [41] with
 | false => rfl
 | true =>
  simp only [cond_true, sk]
  rw [show (PS Lr (i + 1) o).open_ = o from rfl, JD (by omega) (by omega)]; rfl
theorem Tk {i : Nat} (hi : i < n) {o : Int} (h0 : 0 <= o) (h32 : o <= 33) : BV N (RS Lf i o) = some (bif Se Lf i [41] then RS Lf (i + 1) (o - 1) else RB Lf i (o - 1) 60 (atI Lf i)) := by
 unfold BV
 rw [GS T hi]
 have ew : W64 (o - 1) = o - 1 := JD (by omega) (by omega)
 cases hs : Se Lf i [41] with
 | false =>
  show some (RB Lf i (W64 (o - 1)) 60 (atI Lf i)) = _
  rw [ew]; rfl
 | true =>
  show some (RB Lf (i + 1) (W64 (o - 1)) 0 0) = _
  rw [ew]; rfl
theorem Pa {i : Nat} {o e w : Int} (he : e ≠ 0) : ∃ o', BV N (RB Lf i o e w) = some (RB Lf i o' e w) := by
 unfold BV
 rw [E1 T he]
 exact ⟨_, rfl⟩
theorem Tg {i : Nat} {o e w : Int} (he : e ≠ 0) : ∃ o', BW N (RB Lf i o e w) = some (RB Lf i o' e w) := by
 unfold BW
 rw [show ((RB Lf i o e w).Bad == 0) = false by show (e == 0) = false; simpa using he, cond_false]
 simp only [Option.bind_some, cond_false]
 show ∃ o', ((Az N (RB Lf i o e w) [40]).bind _) = some (RB Lf i o' e w)
 rw [E1 T he]
 exact ⟨_, rfl⟩
end
section
variable {N : Nat} {Lf : List Ae} {i : Nat} {o e w : Int}
theorem Sk (he : e ≠ 0) (k : Nat) : (CQ N (k + 1)).q240 (RB Lf i o e w) = some (RB Lf i o e w, zE) := by
 show BR N (CQ N k).q89 (RB Lf i o e w) = _
 unfold BR
 rw [show ((RB Lf i o e w).Bad != 0) = true by show (e != 0) = true; simpa using he]; rfl
theorem Hg {ρ : Type} {body : (Int × Int × List Expr × List Ae × Int × Int × Int × Int) -> Option (Be ρ (Int × Int × List Expr × List Ae × Int × Int × Int × Int))} {s : Int × Int × List Expr × List Ae × Int × Int × Int × Int}
  (hb : body s = some (.done s)) (hN : 0 < N) : AL body N s = some (.done s) := by
 obtain ⟨m, rfl⟩ : ∃ m, N = m + 1 := ⟨N - 1, by omega⟩
 rw [AL, hb]
theorem e0 (he : e ≠ 0) : (e == 0) = false := by simpa using he
theorem Sj (hN : 0 < N) (he : e ≠ 0) (k : Nat) : (CQ N (k + 2)).q234 (RB Lf i o e w) = some (RB Lf i o e w, zE) := by
 show D2 N (CQ N (k + 1)).q240 (RB Lf i o e w) = _
 unfold D2
 rw [Sk he, Option.bind_some, Hg (by unfold B3; simp only [RB, e0 he]; rfl) hN]; rfl
theorem TO (hN : 0 < N) (he : e ≠ 0) (k : Nat) : (CQ N (k + 3)).q227 (RB Lf i o e w) = some (RB Lf i o e w, zE) := by
 show Es N (CQ N (k + 2)).q234 (RB Lf i o e w) = _
 unfold Es
 rw [Sj hN he, Option.bind_some, Hg (by unfold Cf; simp only [RB, e0 he]; rfl) hN]; rfl
theorem Si (hN : 0 < N) (he : e ≠ 0) (k : Nat) : (CQ N (k + 4)).q213 (RB Lf i o e w) = some (RB Lf i o e w, zE) := by
 show CF N (CQ N (k + 3)).q227 (RB Lf i o e w) = _
 unfold CF
 rw [TO hN he, Option.bind_some]
 show (((bif (e == 0) then _ else some false).bind _)) = _
 rw [e0 he]; rfl
theorem Sl (hN : 0 < N) (he : e ≠ 0) (k : Nat) : (CQ N (k + 5)).q186 (RB Lf i o e w) = some (RB Lf i o e w, zE) := by
 show CG N (CQ N (k + 4)).q186 (CQ N (k + 4)).q213 (RB Lf i o e w) = _
 unfold CG
 show (((bif (e == 0) then _ else some false).bind _)) = _
 rw [e0 he, cond_false, Option.bind_some, cond_false, Si hN he]; rfl
theorem Sm (hN : 0 < N) (he : e ≠ 0) (k : Nat) : (CQ N (k + 6)).q146 (RB Lf i o e w) = some (RB Lf i o e w, zE) := by
 show D4 N (CQ N (k + 5)).q186 (RB Lf i o e w) = _
 unfold D4
 rw [Sl hN he, Option.bind_some, Hg (by unfold B5; simp only [RB, e0 he]; rfl) hN]; rfl
theorem NT (hN : 0 < N) (he : e ≠ 0) (k : Nat) : (CQ N (k + 7)).q89 (RB Lf i o e w) = some (RB Lf i o e w, zE) := by
 show D3 N (CQ N (k + 6)).q146 (RB Lf i o e w) = _
 unfold D3
 rw [Sm hN he, Option.bind_some, Hg (by unfold B4; simp only [RB, e0 he]; rfl) hN]; rfl
end
inductive Out (n : Nat) (Lr : List Ah) (Lf : List Ae) (i : Nat) (o : Int) : (Ag ⊕ (Ab × Expr)) -> (Aa × Expr) -> Prop
 | ok (j : Nat) (x : Expr) (h1 : i < j) (h2 : j < n) (hx : Ht 10 (j - i) x) : Out n Lr Lf i o (.inr (PS Lr j o, x)) (RS Lf j o, x)
 | err (e w : Int) (j : Nat) (o' : Int) (x : Expr) (he : e ≠ 0) (hj : j < n) : Out n Lr Lf i o (.inl ⟨e, w⟩) (RB Lf j o' e w, x)
def Agr (n : Nat) (Lr : List Ah) (Lf : List Ae) (c K : Nat) (f : Ab -> Option (Ag ⊕ (Ab × Expr))) (g : Aa -> Option (Aa × Expr)) : Prop :=
 ∀ (i : Nat) (o : Int), i < n -> 0 <= o -> o <= 32 -> 8 * (n - i) + c <= K -> ∃ p r, f (PS Lr i o) = some p /\ g (RS Lf i o) = some r /\ Out n Lr Lf i o p r
abbrev St : Type := Int × Int × List Expr × List Ae × Int × Int × Int × Int
structure T6 (n : Nat) (Lf : List Ae) (Aq : Nat -> Option Int) (g : Aa -> Option (Aa × Expr)) (B : St -> Option (Be (Aa × Expr) St)) : Prop where
 bad : ∀ (op v : Int) (ks : List Expr) (L : List Ae) (j o e w : Int), e ≠ 0 -> B (op, v, ks, L, j, o, e, w) = some (.done (op, v, ks, L, j, o, e, w))
 no : ∀ (op v : Int) (ks : List Expr) (j : Nat) (o : Int), j < n -> Aq j = none -> B (op, v, ks, Lf, (j : Int), o, 0, 0) = some (.done (op, v, ks, Lf, (j : Int), o, 0, 0))
 yes : ∀ (op v : Int) (ks : List Expr) (j : Nat) (o c : Int), j < n -> Aq j = some c -> B (op, v, ks, Lf, (j : Int), o, 0, 0) = (g (RS Lf (j + 1) o)).bind fun r => some (.next (c, 0, [⟨op, v, ks⟩, r.2], r.1.L, r.1.At, r.1.Open, r.1.Bad, r.1.Where))
section
variable {N n : Nat} {Lr : List Ah} {Lf : List Ae} (T : Gw n Lr Lf)
include T
theorem Hs (hN : n + 2 <= N) {c K : Nat} {f : Ab -> Option (Ag ⊕ (Ab × Expr))} {g : Aa -> Option (Aa × Expr)} (hfg : Agr n Lr Lf c K f g)
  {ops : List (W4 × Int)} {Aq : Nat -> Option Int} (hops : ∀ i a, i < n -> Lr[i]? = some a -> (HZ ops a.text_ && seeR a a.text_) = (Aq i).isSome /\ ∀ z, Aq i = some z -> FF ops a.text_ 0 = z) (hlt : ∀ i, i < n -> (Aq i).isSome = true -> i + 1 < n)
  {B : Aa × Expr -> St -> Option (Be (Aa × Expr) St)} (hB : ∀ r, T6 n Lf Aq g (B r)) {i : Nat} {o : Int} (hi : i < n) (h0 : 0 <= o) (h32 : o <= 32) (hK : 8 * (n - i) + c <= K) :
  ∃ p r, AR N (PS Lr i o) f ops = some p /\
   ((g (RS Lf i o)).bind fun r26 => ((AL (B r26) N (r26.2.Op, r26.2.Value, r26.2.Kids, r26.1.L, r26.1.At, r26.1.Open, r26.1.Bad, r26.1.Where)).bind fun q => q.k (fun r => some r) (fun s49 => some (({ L := s49.2.2.2.1, At := s49.2.2.2.2.1, Open := s49.2.2.2.2.2.1, Bad := s49.2.2.2.2.2.2.1, Where := s49.2.2.2.2.2.2.2 } : Aa), ({ Op := s49.1, Value := s49.2.1, Kids := s49.2.2.1 } : Expr))))) = some r /\ Out n Lr Lf i o p r := by
 obtain ⟨p0, r0, e1, e2, h⟩ := hfg i o hi h0 h32 hK
 unfold AR
 rw [e1, e2]
 simp only [Option.bind_some]
 cases h with
 | err e w j o' x he hj =>
  refine ⟨.inl ⟨e, w⟩, (RB Lf j o' e w, x), rfl, ?_, .err e w j o' x he hj⟩
  have hd := Hg (N := N) ((hB (RB Lf j o' e w, x)).bad x.Op x.Value x.Kids Lf (j : Int) o' e w he) (by omega)
  rw [show AL (B (RB Lf j o' e w, x)) N (x.Op, x.Value, x.Kids, (RB Lf j o' e w).L, (RB Lf j o' e w).At, (RB Lf j o' e w).Open, (RB Lf j o' e w).Bad, (RB Lf j o' e w).Where) = _ from hd]
  cases x; rfl
 | ok j x h1 h2 hx =>
  simp only [sk]
  obtain ⟨o1, o2, r1, r2, hR⟩ := MJ (b1 := Aw N (PS Lr i o) f ops (PS Lr j o, x)) (b2 := B (RS Lf j o, x))
   (fun m s t => ∃ (q : Nat) (op v : Int) (ks : List Expr), m = n - q /\ i < q /\ q < n /\ Ht 10 (q - i) ⟨op, v, ks⟩ /\ s = (op, v, ks, Lr.drop q, o) /\ t = (op, v, ks, Lf, (q : Int), o, 0, 0))
   (fun a b => ∃ p r, a = .ret p /\ b = .done (r.2.Op, r.2.Value, r.2.Kids, r.1.L, r.1.At, r.1.Open, r.1.Bad, r.1.Where) /\ Out n Lr Lf i o p r)
   (by
    rintro m s t ⟨q, op, v, ks, rfl, hq1, hq2, hh, rfl, rfl⟩
    obtain ⟨a, b, ha, hb, hc, _, _, _⟩ := T.hd hq2
    obtain ⟨ho1, ho2⟩ := hops q a hq2 ha
    have hacc := CT T (N := N) hq2 o a.text_ ha
    cases hop : Aq q with
    | none =>
     right; left
     rw [hop] at ho1
     refine ⟨.ret (.inr (PS Lr q o, ⟨op, v, ks⟩)), _, ?_, (fun _ h => by cases h), (hB _).no op v ks q o hq2 hop, (fun _ h => by cases h), _, (RS Lf q o, ⟨op, v, ks⟩), rfl, rfl, .ok q _ hq1 hq2 hh⟩
     unfold Aw
     simp only [hc, Option.bind_some]
     cases hm : HZ ops a.text_ with
     | false => simp only [Bool.not_false, cond_true, Option.bind_some]; rfl
     | true =>
      rw [hm] at ho1
      have hs : seeR a a.text_ = false := by simpa using ho1
      rw [hs] at hacc
      simp only [Bool.not_true, cond_false]
      rw [show (⟨Lr.drop q, o⟩ : Ab) = PS Lr q o from rfl, hacc]
      rfl
    | some z =>
     rw [hop] at ho1
     simp only [Option.isSome_some, Bool.and_eq_true] at ho1
     rw [ho1.2] at hacc
     have hz := ho2 z hop
     have hq3 := hlt q hq2 (by rw [hop]; rfl)
     obtain ⟨p2, r2, e3, e4, hout⟩ := hfg (q + 1) o hq3 h0 h32 (by omega)
     have hb1 : Aw N (PS Lr i o) f ops (PS Lr j o, x) (op, v, ks, Lr.drop q, o) = sk p2 (fun b => some (.ret (.inl b))) (fun r => some (.next (z, 0, [⟨op, v, ks⟩, r.2], r.1.l_, r.1.open_))) := by
      unfold Aw
      simp only [hc, Option.bind_some, ho1.1, Bool.not_true, cond_false]
      rw [show (⟨Lr.drop q, o⟩ : Ab) = PS Lr q o from rfl, hacc]
      simp only [cond_true, Option.bind_some, Bool.not_true, cond_false]
      rw [show (⟨(PS Lr (q + 1) o).l_, (PS Lr (q + 1) o).open_⟩ : Ab) = PS Lr (q + 1) o from rfl, e3]
      cases p2 with
      | inl b => rfl
      | inr r => simp only [Option.bind_some, sk, hz]
     have hb2 := (hB (RS Lf j o, x)).yes op v ks q o z hq2 hop
     rw [e4, Option.bind_some] at hb2
     cases hout with
     | ok q2 y hy1 hy2 hy =>
      left
      refine ⟨n - q2, _, _, by omega, hb1, hb2, q2, z, 0, [⟨op, v, ks⟩, y], rfl, by omega, hy2, ?_, rfl, rfl⟩
      obtain ⟨d, hd⟩ : ∃ d, q2 - i = d + 1 := ⟨q2 - i - 1, by omega⟩
      rw [hd]
      refine ⟨by show 2 < 10; omega, by show 2 < 9223372036854775808; omega, fun u hu => ?_⟩
      have hu' : u ∈ [(⟨op, v, ks⟩ : Expr), y] := hu
      simp only [List.mem_cons, List.not_mem_nil, or_false] at hu'
      rcases hu' with rfl | rfl
      ·exact hh.le (by omega)
      ·exact hy.le (by omega)
     | err e w q2 o' y he hj =>
      right; right
      exact ⟨_, _, _, hb1, (fun _ h => by cases h), hb2, (hB _).bad z 0 [⟨op, v, ks⟩, y] Lf (q2 : Int) o' e w he, (fun _ h => by cases h), .inl ⟨e, w⟩, (RB Lf q2 o' e w, ⟨z, 0, [⟨op, v, ks⟩, y]⟩), rfl, rfl, .err e w q2 o' _ he hj⟩)
   (n - j) N N (x.Op, x.Value, x.Kids, Lr.drop j, o) (x.Op, x.Value, x.Kids, Lf, (j : Int), o, 0, 0) ⟨j, x.Op, x.Value, x.Kids, rfl, h1, h2, by cases x; exact hx, rfl, rfl⟩ (by omega) (by omega)
  obtain ⟨p, r, rfl, rfl, hO⟩ := hR
  refine ⟨p, r, ?_, ?_, hO⟩
  ·rw [show ((PS Lr j o, x) : Ab × Expr).1.l_ = Lr.drop j from rfl, show ((PS Lr j o, x) : Ab × Expr).1.open_ = o from rfl]
   rw [r1]; rfl
  ·rw [show AL (B (RS Lf j o, x)) N (x.Op, x.Value, x.Kids, (RS Lf j o).L, (RS Lf j o).At, (RS Lf j o).Open, (RS Lf j o).Bad, (RS Lf j o).Where) = _ from r2]
   obtain ⟨u1, u2⟩ := r
   cases u2; rfl
end
section
variable {N n : Nat} {Lr : List Ah} {Lf : List Ae} (T : Gw n Lr Lf)
include T
theorem R3 {k : W4} (hk : k ≠ [10]) {z : Int} : ∀ i a, i < n -> Lr[i]? = some a -> (HZ [(k, z)] a.text_ && seeR a a.text_) = (if Se Lf i k then some z else none : Option Int).isSome /\ ∀ y, (if Se Lf i k then some z else none : Option Int) = some y -> FF [(k, z)] a.text_ 0 = y := by
 intro i a hi ha
 rw [<- T.see ha hi hk]
 unfold HZ FF Hr Hr
 by_cases ht : a.text_ = k
 ·rw [if_pos ht, ht]
  cases hs : seeR a k <;> simp
 ·have hs : seeR a k = false := by unfold seeR; simp [ht]
  rw [hs]; simp [ht]
theorem VV {k1 k2 : W4} (hk : k1 ≠ [10]) (hk2 : k2 ≠ [10]) (hne : k1 ≠ k2) {z1 z2 : Int} : ∀ i a, i < n -> Lr[i]? = some a ->
  (HZ [(k1, z1), (k2, z2)] a.text_ && seeR a a.text_) = (if Se Lf i k1 then some z1 else if Se Lf i k2 then some z2 else none : Option Int).isSome /\ ∀ y, (if Se Lf i k1 then some z1 else if Se Lf i k2 then some z2 else none : Option Int) = some y -> FF [(k1, z1), (k2, z2)] a.text_ 0 = y := by
 intro i a hi ha
 rw [<- T.see ha hi hk, <- T.see ha hi hk2]
 unfold HZ FF Hr Hr Hr
 by_cases ht : a.text_ = k1
 ·rw [if_pos ht, ht]
  have h2 : seeR a k2 = false := by unfold seeR; rw [ht]; simp [hne]
  rw [h2]
  cases hs : seeR a k1 <;> simp
 ·have hs : seeR a k1 = false := by unfold seeR; simp [ht]
  rw [hs]
  by_cases ht2 : a.text_ = k2
  ·rw [ht2]
   have hne' : ¬ k2 = k1 := fun h => hne h.symm
   cases hs2 : seeR a k2 <;> simp [hne']
  ·have hs2 : seeR a k2 = false := by unfold seeR; simp [ht2]
   rw [hs2]; simp [ht, ht2]
theorem lt1 {k : W4} {z : Int} : ∀ i, i < n -> (if Se Lf i k then some z else none : Option Int).isSome = true -> i + 1 < n := by
 intro i hi h
 cases hs : Se Lf i k with
 | true => exact T.lt hi hs
 | false => rw [hs] at h; simp at h
theorem lt2 {k1 k2 : W4} {z1 z2 : Int} : ∀ i, i < n -> (if Se Lf i k1 then some z1 else if Se Lf i k2 then some z2 else none : Option Int).isSome = true -> i + 1 < n := by
 intro i hi h
 cases hs : Se Lf i k1 with
 | true => exact T.lt hi hs
 | false =>
  cases hs2 : Se Lf i k2 with
  | true => exact T.lt hi hs2
  | false => rw [hs, hs2] at h; simp at h
theorem Sv (g x0 r) : T6 n Lf (fun j => if Se Lf j [97, 110, 100] then some 4 else none) g (B5 N g x0 r) := by
 refine ⟨fun op v ks L j o e w he => ?_, fun op v ks j o hj hop => ?_, fun op v ks j o c hj hop => ?_⟩
 ·unfold B5; simp only [e0 he]; rfl
 ·unfold B5
  simp only
  rw [show ((0 : Int) == 0) = true from rfl, cond_true, show (⟨Lf, (j : Int), o, 0, 0⟩ : Aa) = RB Lf j o 0 0 from rfl, ES T hj]
  cases hs : Se Lf j [97, 110, 100] with
  | true => simp only [hs, if_true] at hop; cases hop
  | false => rfl
 ·unfold B5
  simp only
  rw [show ((0 : Int) == 0) = true from rfl, cond_true, show (⟨Lf, (j : Int), o, 0, 0⟩ : Aa) = RB Lf j o 0 0 from rfl, ES T hj]
  cases hs : Se Lf j [97, 110, 100] with
  | false => simp only [hs, Bool.false_eq_true, if_false] at hop; cases hop
  | true =>
   simp only [hs, if_true, Option.some.injEq] at hop
   subst hop
   simp only [Option.bind_some, cond_true, zW1 T hj]
   rfl
theorem Su (g x0 r) : T6 n Lf (fun j => if Se Lf j [111, 114] then some 5 else none) g (B4 N g x0 r) := by
 refine ⟨fun op v ks L j o e w he => ?_, fun op v ks j o hj hop => ?_, fun op v ks j o c hj hop => ?_⟩
 ·unfold B4; simp only [e0 he]; rfl
 ·unfold B4
  simp only
  rw [show ((0 : Int) == 0) = true from rfl, cond_true, show (⟨Lf, (j : Int), o, 0, 0⟩ : Aa) = RB Lf j o 0 0 from rfl, ES T hj]
  cases hs : Se Lf j [111, 114] with
  | true => simp only [hs, if_true] at hop; cases hop
  | false => rfl
 ·unfold B4
  simp only
  rw [show ((0 : Int) == 0) = true from rfl, cond_true, show (⟨Lf, (j : Int), o, 0, 0⟩ : Aa) = RB Lf j o 0 0 from rfl, ES T hj]
  cases hs : Se Lf j [111, 114] with
  | false => simp only [hs, Bool.false_eq_true, if_false] at hop; cases hop
  | true =>
   simp only [hs, if_true, Option.some.injEq] at hop
   subst hop
   simp only [Option.bind_some, cond_true, zW1 T hj]
   rfl
theorem Sr (g x0 r) : T6 n Lf (fun j => if Se Lf j [42] then some 10 else none) g (B3 N g x0 r) := by
 refine ⟨fun op v ks L j o e w he => ?_, fun op v ks j o hj hop => ?_, fun op v ks j o c hj hop => ?_⟩
 ·unfold B3; simp only [e0 he]; rfl
 ·unfold B3
  simp only
  rw [show ((0 : Int) == 0) = true from rfl, cond_true, show (⟨Lf, (j : Int), o, 0, 0⟩ : Aa) = RB Lf j o 0 0 from rfl, ES T hj]
  cases hs : Se Lf j [42] with
  | true => simp only [hs, if_true] at hop; cases hop
  | false => rfl
 ·unfold B3
  simp only
  rw [show ((0 : Int) == 0) = true from rfl, cond_true, show (⟨Lf, (j : Int), o, 0, 0⟩ : Aa) = RB Lf j o 0 0 from rfl, ES T hj]
  cases hs : Se Lf j [42] with
  | false => simp only [hs, Bool.false_eq_true, if_false] at hop; cases hop
  | true =>
   simp only [hs, if_true, Option.some.injEq] at hop
   subst hop
   simp only [Option.bind_some, cond_true, zW1 T hj]
   rfl
theorem TV (g x0 r) : T6 n Lf (fun j => if Se Lf j [43] then some 8 else if Se Lf j [45] then some 9 else none) g (Cf N g x0 r) := by
 refine ⟨fun op v ks L j o e w he => ?_, fun op v ks j o hj hop => ?_, fun op v ks j o c hj hop => ?_⟩
 ·unfold Cf; simp only [e0 he]; rfl
 ·unfold Cf
  simp only
  rw [show ((0 : Int) == 0) = true from rfl, cond_true, show (⟨Lf, (j : Int), o, 0, 0⟩ : Aa) = RB Lf j o 0 0 from rfl, ES T hj, ES T hj]
  cases hs : Se Lf j [43] with
  | true => simp only [hs, if_true] at hop; cases hop
  | false =>
   cases hs2 : Se Lf j [45] with
   | true => simp only [hs, hs2, Bool.false_eq_true, if_false, if_true] at hop; cases hop
   | false => rfl
 ·unfold Cf
  simp only
  rw [show ((0 : Int) == 0) = true from rfl, cond_true, show (⟨Lf, (j : Int), o, 0, 0⟩ : Aa) = RB Lf j o 0 0 from rfl, ES T hj, ES T hj]
  cases hs : Se Lf j [43] with
  | true =>
   simp only [hs, if_true, Option.some.injEq] at hop
   subst hop
   simp only [Option.bind_some, cond_true, zW1 T hj]
   rfl
  | false =>
   cases hs2 : Se Lf j [45] with
   | false => simp only [hs, hs2, Bool.false_eq_true, if_false] at hop; cases hop
   | true =>
    simp only [hs, hs2, Bool.false_eq_true, if_false, if_true, Option.some.injEq] at hop
    subst hop
    simp only [Option.bind_some, cond_true, cond_false, zW1 T hj]
    rfl
end
section
variable {N n : Nat} {Lr : List Ah} {Lf : List Ae} (T : Gw n Lr Lf)
include T
theorem L2 {i : Nat} (hi : i < n) (o : Int) : (⟨(RS Lf i o).L, W64 ((RS Lf i o).At + 1), (RS Lf i o).Open, (RS Lf i o).Bad, (RS Lf i o).Where⟩ : Aa) = RS Lf (i + 1) o := by
 show (⟨Lf, W64 ((i : Int) + 1), o, 0, 0⟩ : Aa) = _
 rw [zW1 T hi]; rfl
theorem TL {K : Nat} {fd ft : Ab -> Option (Ag ⊕ (Ab × Expr))} {gd gt : Aa -> Option (Aa × Expr)} (hd : Agr n Lr Lf 5 K fd gd) (ht : Agr n Lr Lf 4 K ft gt) :
  Agr n Lr Lf 5 (K + 1) (BF N fd ft) (CG N gd gt) := by
 intro i o hi h0 h32 hK
 unfold BF CG
 rw [Bg T hi o (by decide), show ((RS Lf i o).Bad == 0) = true from rfl, cond_true, ES T hi]
 cases hs : Se Lf i [110, 111, 116] with
 | true =>
  have hlt := T.lt hi hs
  obtain ⟨p, r, e1, e2, h⟩ := hd (i + 1) o hlt h0 h32 (by omega)
  simp only [Option.bind_some, cond_true, L2 T hi, e1, e2]
  cases h with
  | err e w j o' x he hj => exact ⟨_, _, rfl, rfl, .err e w j o' _ he hj⟩
  | ok j x h1 h2 hx =>
   refine ⟨_, _, rfl, rfl, .ok j _ (by omega) h2 ?_⟩
   obtain ⟨d, hd⟩ : ∃ d, j - i = d + 1 := ⟨j - i - 1, by omega⟩
   rw [hd]
   refine ⟨by show 1 < 10; omega, by show 1 < 9223372036854775808; omega, fun u hu => ?_⟩
   have hu' : u ∈ [x] := hu
   simp only [List.mem_cons, List.not_mem_nil, or_false] at hu'
   subst hu'
   exact hx.le (by omega)
 | false =>
  obtain ⟨p, r, e1, e2, h⟩ := ht i o hi h0 h32 (by omega)
  simp only [Option.bind_some, cond_false, e1, e2]
  cases h with
  | err e w j o' x he hj => exact ⟨_, _, rfl, rfl, .err e w j o' _ he hj⟩
  | ok j x h1 h2 hx => exact ⟨_, _, rfl, rfl, .ok j _ h1 h2 hx⟩
theorem Rr {i j q : Nat} {op : Int} {x y : Expr} (hx : Ht 10 (j - i) x) (hy : Ht 10 (q - (j + 1)) y) (h1 : i < j) (h2 : j + 1 < q) : Ht 10 (q - i) ⟨op, 0, [x, y]⟩ := by
 obtain ⟨d, hd⟩ : ∃ d, q - i = d + 1 := ⟨q - i - 1, by omega⟩
 rw [hd]
 refine ⟨by show 2 < 10; omega, by show 2 < 9223372036854775808; omega, fun u hu => ?_⟩
 have hu' : u ∈ [x, y] := hu
 simp only [List.mem_cons, List.not_mem_nil, or_false] at hu'
 rcases hu' with rfl | rfl
 ·exact hx.le (by omega)
 ·exact hy.le (by omega)
theorem SM {K : Nat} {fs : Ab -> Option (Ag ⊕ (Ab × Expr))} {gs : Aa -> Option (Aa × Expr)} (hs : Agr n Lr Lf 3 K fs gs) :
  Agr n Lr Lf 4 (K + 1) (BE N fs) (CF N gs) := by
 intro i o hi h0 h32 hK
 obtain ⟨p, r, e1, e2, h⟩ := hs i o hi h0 h32 (by omega)
 unfold BE CF
 rw [e1, e2]
 simp only [Option.bind_some]
 cases h with
 | err e w j o' x he hj =>
  refine ⟨.inl ⟨e, w⟩, (RB Lf j o' e w, x), rfl, ?_, .err e w j o' _ he hj⟩
  show (((bif (e == 0) then _ else some false).bind _)) = _
  rw [e0 he]; rfl
 | ok j x h1 h2 hx =>
  simp only [sk]
  rw [Bg T h2 o (by decide), show ((RS Lf j o).Bad == 0) = true from rfl, cond_true, ES T h2, ES T h2]
  cases hq : Se Lf j [61] with
  | true =>
   have hlt := T.lt h2 hq
   obtain ⟨p2, r2, e3, e4, h'⟩ := hs (j + 1) o hlt h0 h32 (by omega)
   simp only [Option.bind_some, cond_true, L2 T h2, e3, e4]
   cases h' with
   | err e w q o' y he hj => exact ⟨_, _, rfl, rfl, .err e w q o' _ he hj⟩
   | ok q y hy1 hy2 hy => exact ⟨_, _, rfl, rfl, .ok q _ (by omega) hy2 (Rr T hx hy h1 hy1)⟩
  | false =>
   simp only [Option.bind_some, cond_false]
   rw [Bg T h2 o (by decide)]
   cases hl : Se Lf j [60] with
   | true =>
    have hlt := T.lt h2 hl
    obtain ⟨p2, r2, e3, e4, h'⟩ := hs (j + 1) o hlt h0 h32 (by omega)
    simp only [Option.bind_some, cond_true, cond_false, L2 T h2, e3, e4]
    cases h' with
    | err e w q o' y he hj => exact ⟨_, _, rfl, rfl, .err e w q o' _ he hj⟩
    | ok q y hy1 hy2 hy => exact ⟨_, _, rfl, rfl, .ok q _ (by omega) hy2 (Rr T hx hy h1 hy1)⟩
   | false => exact ⟨_, _, rfl, rfl, .ok j _ h1 h2 hx⟩
end
section
variable (N : Nat) (g : Aa -> Option (Aa × Expr)) (f : Ab -> Option (Ag ⊕ (Ab × Expr)))
def zF6 (c x : Expr) (r : Aa × Expr) : Option (Aa × Expr) := (BV N r.1).bind fun r312 => some (r312, ({ Op := 11, Value := 0, Kids := [c, x, r.2] } : Expr))
def zF5 (c x : Expr) (r : Aa) : Option (Aa × Expr) := (g r).bind (zF6 N c x)
def zF4 (c : Expr) (r : Aa × Expr) : Option (Aa × Expr) := (Az N r.1 [44]).bind (zF5 N g c r.2)
def zF3 (c : Expr) (r : Aa) : Option (Aa × Expr) := (g r).bind (zF4 N g c)
def zF2 (r : Aa × Expr) : Option (Aa × Expr) := (Az N r.1 [44]).bind (zF3 N g r.2)
def zF1 (r : Aa) : Option (Aa × Expr) := (g r).bind (zF2 N g)
def zF0 (r : Aa) : Option (Aa × Expr) := (BW N r).bind (zF1 N g)
def Hf : Ag -> Option (Ag ⊕ (Ab × Expr)) := fun b => some (.inl b)
def H6 (c x : Expr) (r : Ab × Expr) : Option (Ag ⊕ (Ab × Expr)) := (BJ N r.1).bind fun q => sk q Hf fun r259 => some (.inr (r259, ({ Op := 11, Value := 0, Kids := [c, x, r.2] } : Expr)))
def H5 (c x : Expr) (r : Ab) : Option (Ag ⊕ (Ab × Expr)) := (f r).bind fun q => sk q Hf (H6 N c x)
def H4 (c : Expr) (r : Ab × Expr) : Option (Ag ⊕ (Ab × Expr)) := (Ax N r.1 [44]).bind fun q => sk q Hf (H5 N f c r.2)
def H3 (c : Expr) (r : Ab) : Option (Ag ⊕ (Ab × Expr)) := (f r).bind fun q => sk q Hf (H4 N f c)
def H2 (r : Ab × Expr) : Option (Ag ⊕ (Ab × Expr)) := (Ax N r.1 [44]).bind fun q => sk q Hf (H3 N f r.2)
def H1 (r : Ab) : Option (Ag ⊕ (Ab × Expr)) := (f r).bind fun q => sk q Hf (H2 N f)
def H0 (r : Ab) : Option (Ag ⊕ (Ab × Expr)) := (BK N r).bind fun q => sk q Hf (H1 N f)
def P2 (r : Aa × Expr) : Option (Aa × Expr) := (BV N r.1).bind fun r224 => some (r224, r.2)
def P1 (r : Aa) : Option (Aa × Expr) := (g r).bind (P2 N)
def P0 (r : Aa) : Option (Aa × Expr) := (BW N r).bind (P1 N g)
def Q2 (r : Ab × Expr) : Option (Ag ⊕ (Ab × Expr)) := (BJ N r.1).bind fun q => sk q Hf fun r389 => some (.inr (r389, r.2))
def Q1 (r : Ab) : Option (Ag ⊕ (Ab × Expr)) := (f r).bind fun q => sk q Hf (Q2 N)
def Q0 (r : Ab) : Option (Ag ⊕ (Ab × Expr)) := (BK N r).bind fun q => sk q Hf (Q1 N f)
end
section
variable {N n : Nat} {Lr : List Ah} {Lf : List Ae} (T : Gw n Lr Lf) {g : Aa -> Option (Aa × Expr)} {f : Ab -> Option (Ag ⊕ (Ab × Expr))}
def JE (Lf : List Ae) (g : Aa -> Option (Aa × Expr)) : Prop := ∀ (j : Nat) (o e w : Int), e ≠ 0 -> g (RB Lf j o e w) = some (RB Lf j o e w, zE)
def Jl (Lf : List Ae) (j : Nat) (e w : Int) (q : Option (Aa × Expr)) : Prop := ∃ o' X, q = some (RB Lf j o' e w, X)
include T
theorem zd6 {j : Nat} {o e w : Int} (he : e ≠ 0) (c x y : Expr) : Jl Lf j e w (zF6 N c x (RB Lf j o e w, y)) := by
 obtain ⟨o', h⟩ := Pa T (N := N) (i := j) (o := o) (w := w) he
 exact ⟨o', _, by unfold zF6; rw [h]; rfl⟩
theorem zd5 (hg : JE Lf g) {j : Nat} {o e w : Int} (he : e ≠ 0) (c x : Expr) : Jl Lf j e w (zF5 N g c x (RB Lf j o e w)) := by
 unfold zF5; rw [hg j o e w he]; exact zd6 T he c x zE
theorem zd4 (hg : JE Lf g) {j : Nat} {o e w : Int} (he : e ≠ 0) (c x : Expr) : Jl Lf j e w (zF4 N g c (RB Lf j o e w, x)) := by
 unfold zF4; rw [E1 T he]; exact zd5 T hg he c x
theorem zd3 (hg : JE Lf g) {j : Nat} {o e w : Int} (he : e ≠ 0) (c : Expr) : Jl Lf j e w (zF3 N g c (RB Lf j o e w)) := by
 unfold zF3; rw [hg j o e w he]; exact zd4 T hg he c zE
theorem zd2 (hg : JE Lf g) {j : Nat} {o e w : Int} (he : e ≠ 0) (c : Expr) : Jl Lf j e w (zF2 N g (RB Lf j o e w, c)) := by
 unfold zF2; rw [E1 T he]; exact zd3 T hg he c
theorem zd1 (hg : JE Lf g) {j : Nat} {o e w : Int} (he : e ≠ 0) : Jl Lf j e w (zF1 N g (RB Lf j o e w)) := by
 unfold zF1; rw [hg j o e w he]; exact zd2 T hg he zE
theorem zd0 (hg : JE Lf g) {j : Nat} {o e w : Int} (he : e ≠ 0) : Jl Lf j e w (zF0 N g (RB Lf j o e w)) := by
 obtain ⟨o', h⟩ := Tg T (N := N) (i := j) (o := o) (w := w) he
 unfold zF0; rw [h]; exact zd1 T hg he
theorem VL {j : Nat} {o e w : Int} (he : e ≠ 0) (x : Expr) : Jl Lf j e w (P2 N (RB Lf j o e w, x)) := by
 obtain ⟨o', h⟩ := Pa T (N := N) (i := j) (o := o) (w := w) he
 exact ⟨o', _, by unfold P2; rw [h]; rfl⟩
theorem Wp (hg : JE Lf g) {j : Nat} {o e w : Int} (he : e ≠ 0) : Jl Lf j e w (P1 N g (RB Lf j o e w)) := by
 unfold P1; rw [hg j o e w he]; exact VL T he zE
def E7 (n : Nat) (Lr : List Ah) (Lf : List Ae) (i : Nat) (o : Int) (P : Option (Ag ⊕ (Ab × Expr))) (R : Option (Aa × Expr)) : Prop := ∃ p r, P = some p /\ R = some r /\ Out n Lr Lf i o p r
omit T in
theorem E7.fail {i j : Nat} {o e w : Int} {P : Option (Ag ⊕ (Ab × Expr))} {R : Option (Aa × Expr)} (hP : P = some (.inl ⟨e, w⟩)) (hR : Jl Lf j e w R) (he : e ≠ 0) (hj : j < n) : E7 n Lr Lf i o P R := by
 obtain ⟨o', X, rfl⟩ := hR
 exact ⟨_, _, hP, rfl, .err e w j o' X he hj⟩
theorem zs6 {i j : Nat} {o : Int} (h0 : 0 <= o) (h32 : o < 32) (hij : i < j) (hj : j < n) {c x y : Expr} (hc : Ht 10 (j - i) c) (hx : Ht 10 (j - i) x) (hy : Ht 10 (j - i) y) : E7 n Lr Lf i o (H6 N c x (PS Lr j (o + 1), y)) (zF6 N c x (RS Lf j (o + 1), y)) := by
 unfold H6 zF6
 rw [JZ T hj (by omega) (by omega), Tk T hj (by omega) (by omega)]
 cases hs : Se Lf j [41] with
 | false => exact E7.fail rfl ⟨_, _, rfl⟩ (by decide) hj
 | true =>
  have e : o + 1 - 1 = o := by omega
  simp only [cond_true, Option.bind_some, sk, e]
  refine ⟨_, _, rfl, rfl, .ok (j + 1) _ (by omega) (T.lt hj hs) ?_⟩
  obtain ⟨d, hd⟩ : ∃ d, j - i = d := ⟨_, rfl⟩
  rw [show j + 1 - i = d + 1 by omega]
  rw [hd] at hc hx hy
  refine ⟨by show 3 < 10; omega, by show 3 < 9223372036854775808; omega, fun u hu => ?_⟩
  have hu' : u ∈ [c, x, y] := hu
  simp only [List.mem_cons, List.not_mem_nil, or_false] at hu'
  rcases hu' with rfl | rfl | rfl <;> assumption
theorem zs5 {K : Nat} (hfg : Agr n Lr Lf 7 K f g) {i j : Nat} {o : Int} (h0 : 0 <= o) (h32 : o < 32) (hij : i < j) (hj : j < n) (hK : 8 * (n - j) + 7 <= K) {c x : Expr} (hc : Ht 10 (j - i) c) (hx : Ht 10 (j - i) x) : E7 n Lr Lf i o (H5 N f c x (PS Lr j (o + 1))) (zF5 N g c x (RS Lf j (o + 1))) := by
 obtain ⟨p, r, e1, e2, h⟩ := hfg j (o + 1) hj (by omega) (by omega) hK
 unfold H5 zF5
 rw [e1, e2]
 simp only [Option.bind_some]
 cases h with
 | err e w q o' y he hq => exact E7.fail rfl (zd6 T he c x y) he hq
 | ok q y h1 h2 hy => exact zs6 T h0 h32 (by omega) h2 (hc.le (by omega)) (hx.le (by omega)) (hy.le (by omega))
theorem zs4 {K : Nat} (hfg : Agr n Lr Lf 7 K f g) (hg : JE Lf g) {i j : Nat} {o : Int} (h0 : 0 <= o) (h32 : o < 32) (hij : i < j) (hj : j < n) (hK : 8 * (n - j) + 7 <= K) {c x : Expr} (hc : Ht 10 (j - i) c) (hx : Ht 10 (j - i) x) : E7 n Lr Lf i o (H4 N f c (PS Lr j (o + 1), x)) (zF4 N g c (RS Lf j (o + 1), x)) := by
 unfold H4 zF4
 rw [DA T hj _ (by decide), GS T hj]
 cases hs : Se Lf j [44] with
 | false => exact E7.fail rfl (zd5 T hg (by decide) c x) (by decide) hj
 | true =>
  have hl := T.lt hj hs
  simp only [cond_true, Option.bind_some, sk]
  exact zs5 T hfg h0 h32 (by omega) hl (by omega) (hc.le (by omega)) (hx.le (by omega))
theorem zs3 {K : Nat} (hfg : Agr n Lr Lf 7 K f g) (hg : JE Lf g) {i j : Nat} {o : Int} (h0 : 0 <= o) (h32 : o < 32) (hij : i < j) (hj : j < n) (hK : 8 * (n - j) + 7 <= K) {c : Expr} (hc : Ht 10 (j - i) c) : E7 n Lr Lf i o (H3 N f c (PS Lr j (o + 1))) (zF3 N g c (RS Lf j (o + 1))) := by
 obtain ⟨p, r, e1, e2, h⟩ := hfg j (o + 1) hj (by omega) (by omega) hK
 unfold H3 zF3
 rw [e1, e2]
 simp only [Option.bind_some]
 cases h with
 | err e w q o' y he hq => exact E7.fail rfl (zd4 T hg he c y) he hq
 | ok q y h1 h2 hy => exact zs4 T hfg hg h0 h32 (by omega) h2 (by omega) (hc.le (by omega)) (hy.le (by omega))
theorem zs2 {K : Nat} (hfg : Agr n Lr Lf 7 K f g) (hg : JE Lf g) {i j : Nat} {o : Int} (h0 : 0 <= o) (h32 : o < 32) (hij : i < j) (hj : j < n) (hK : 8 * (n - j) + 7 <= K) {c : Expr} (hc : Ht 10 (j - i) c) : E7 n Lr Lf i o (H2 N f (PS Lr j (o + 1), c)) (zF2 N g (RS Lf j (o + 1), c)) := by
 unfold H2 zF2
 rw [DA T hj _ (by decide), GS T hj]
 cases hs : Se Lf j [44] with
 | false => exact E7.fail rfl (zd3 T hg (by decide) c) (by decide) hj
 | true =>
  have hl := T.lt hj hs
  simp only [cond_true, Option.bind_some, sk]
  exact zs3 T hfg hg h0 h32 (by omega) hl (by omega) (hc.le (by omega))
theorem zs1 {K : Nat} (hfg : Agr n Lr Lf 7 K f g) (hg : JE Lf g) {i j : Nat} {o : Int} (h0 : 0 <= o) (h32 : o < 32) (hij : i < j) (hj : j < n) (hK : 8 * (n - j) + 7 <= K) : E7 n Lr Lf i o (H1 N f (PS Lr j (o + 1))) (zF1 N g (RS Lf j (o + 1))) := by
 obtain ⟨p, r, e1, e2, h⟩ := hfg j (o + 1) hj (by omega) (by omega) hK
 unfold H1 zF1
 rw [e1, e2]
 simp only [Option.bind_some]
 cases h with
 | err e w q o' y he hq => exact E7.fail rfl (zd2 T hg he y) he hq
 | ok q y h1 h2 hy => exact zs2 T hfg hg h0 h32 (by omega) h2 (by omega) (hy.le (by omega))
theorem zs0 {K : Nat} (hfg : Agr n Lr Lf 7 K f g) (hg : JE Lf g) {i j : Nat} {o : Int} (h0 : 0 <= o) (h32 : o <= 32) (hij : i < j) (hj : j < n) (hK : 8 * (n - j) <= K) : E7 n Lr Lf i o (H0 N f (PS Lr j o)) (zF0 N g (RS Lf j o)) := by
 unfold H0 zF0
 rw [J0 T hj h0 h32, Tl T hj h0 h32]
 cases hs : Se Lf j [40] with
 | false => exact E7.fail rfl (zd1 T hg (by decide)) (by decide) hj
 | true =>
  have hl := T.lt hj hs
  simp only [cond_true, Option.bind_some]
  by_cases ho : o = 32
  ·rw [if_pos ho, if_pos ho]; exact E7.fail rfl (zd1 T hg (by decide)) (by decide) hj
  ·rw [if_neg ho, if_neg ho]
   exact zs1 T hfg hg h0 (by omega) (by omega) hl (by omega)
theorem zp2 {i j : Nat} {o : Int} (h0 : 0 <= o) (h32 : o < 32) (hij : i < j) (hj : j < n) {x : Expr} (hx : Ht 10 (j - i) x) : E7 n Lr Lf i o (Q2 N (PS Lr j (o + 1), x)) (P2 N (RS Lf j (o + 1), x)) := by
 unfold Q2 P2
 rw [JZ T hj (by omega) (by omega), Tk T hj (by omega) (by omega)]
 cases hs : Se Lf j [41] with
 | false => exact E7.fail rfl ⟨_, _, rfl⟩ (by decide) hj
 | true =>
  have e : o + 1 - 1 = o := by omega
  simp only [cond_true, Option.bind_some, sk, e]
  exact ⟨_, _, rfl, rfl, .ok (j + 1) _ (by omega) (T.lt hj hs) (hx.le (by omega))⟩
theorem VK {K : Nat} (hfg : Agr n Lr Lf 7 K f g) (hg : JE Lf g) {i : Nat} {o : Int} (h0 : 0 <= o) (h32 : o <= 32) (hi : i < n) (hK : 8 * (n - i) <= K) (hs : Se Lf i [40] = true) : E7 n Lr Lf i o (Q0 N f (PS Lr i o)) (P0 N g (RS Lf i o)) := by
 unfold Q0 P0
 rw [J0 T hi h0 h32, Tl T hi h0 h32, hs]
 have hl := T.lt hi hs
 simp only [cond_true, Option.bind_some]
 by_cases ho : o = 32
 ·rw [if_pos ho, if_pos ho]; exact E7.fail rfl (Wp T hg (by decide)) (by decide) hi
 ·rw [if_neg ho, if_neg ho]
  simp only [sk]
  obtain ⟨p, r, e1, e2, h⟩ := hfg (i + 1) (o + 1) hl (by omega) (by omega) (by omega)
  unfold Q1 P1
  rw [e1, e2]
  simp only [Option.bind_some]
  cases h with
  | err e w q o' y he hq => exact E7.fail rfl (VL T he y) he hq
  | ok q y h1 h2 hy => exact zp2 T h0 (by omega) (by omega) h2 (hy.le (by omega))
end
def NM : List W4 := [[98, 97, 110, 100], [109, 111, 100, 101], [104, 111, 117, 114], [109, 121, 99, 111, 117, 110, 116, 114, 121], [109, 121, 122, 111, 110, 101], [109, 121, 99, 111, 110, 116, 105, 110, 101, 110, 116], [99, 111, 117, 110, 116, 114, 121], [122, 111, 110, 101], [99, 111, 110, 116, 105, 110, 101, 110, 116], [99, 97, 108, 108], [103, 111, 116, 122, 111, 110, 101], [99, 97, 116, 101, 103, 111, 114, 121], [112, 111, 119, 101, 114], [115, 116, 97, 116, 117, 115]]
section
variable {N n : Nat} {Lr : List Ah} {Lf : List Ae} (T : Gw n Lr Lf) {g : Aa -> Option (Aa × Expr)} {f : Ab -> Option (Ag ⊕ (Ab × Expr))}
theorem Oo : GA N = some NM := rfl
theorem To : JS N = some NM := rfl
theorem Rj (hN : 100 < N) (t : W4) : Ca N NM t = some (fi (fun x => t == x) NM) := by
 unfold Ca fi
 rw [E4 NM (fun x => t == x) (fun i => (i : Int)) (fun i hi => by
  unfold BU
  rw [Gu hi, cond_true, Dd hi]; rfl) (by unfold BU; rw [Gv, cond_false]) (show 14 < N by omega) (by decide)]
 cases NM.any fun x => t == x <;> rfl
include T
theorem S3 (hN : 100 < N) {K : Nat} (hfg : Agr n Lr Lf 7 K f g) (hg : JE Lf g) {i : Nat} {o : Int} (hi : i < n) (h0 : 0 <= o) (h32 : o <= 32) (hK : 8 * (n - i) <= K) :
  E7 n Lr Lf i o ((Ap N (PS Lr i o) [105, 102]).bind fun r157 => bif r157.2 then H0 N f r157.1 else ((AH N r157.1 [40]).bind fun r348 => bif r348 then Q0 N f r157.1 else some (.inl ⟨60, atI Lf i⟩)))
   ((AF N (RS Lf i o) [40]).bind fun r193 => bif r193 then P0 N g (RS Lf i o) else ((Az N (RS Lf i o) [105, 102]).bind (zF0 N g))) := by
 rw [Bg T hi o (by decide), ES T hi, GS T hi]
 cases hs : Se Lf i [105, 102] with
 | true =>
  have hp : Se Lf i [40] = false := by
   cases hp : Se Lf i [40] with
   | false => rfl
   | true =>
    exfalso
    unfold Se at hs hp
    cases hb : Lf[i]? with
    | none => rw [hb] at hs; cases hs
    | some b =>
     rw [hb] at hs hp
     simp only at hs hp
     unfold seeF at hs hp
     simp only [Bool.and_eq_true, beq_iff_eq] at hs hp
     rw [hs.2] at hp
     exact absurd hp.2 (by decide)
  rw [hp]
  simp only [Option.bind_some, cond_true, cond_false]
  exact zs0 T hfg hg h0 h32 (by omega) (T.lt hi hs) (by omega)
 | false =>
  simp only [Option.bind_some, cond_false]
  rw [On T hi o (by decide)]
  cases hp : Se Lf i [40] with
  | true =>
   simp only [Option.bind_some, cond_true]
   exact VK T hfg hg h0 h32 hi hK hp
  | false =>
   simp only [Option.bind_some, cond_false]
   exact E7.fail rfl (zd0 T hg (by decide)) (by decide) hi
theorem Ts (hN : 100 < N) {K : Nat} (hfg : Agr n Lr Lf 7 K f g) (hg : 8 <= K -> JE Lf g) : Agr n Lr Lf 1 (K + 1) (A6 N f) (BR N g) := by
 intro i o hi h0 h32 hK
 have hg := hg (by omega)
 have hK' : 8 * (n - i) <= K := by omega
 obtain ⟨a, b, ha, hb, hc, hd, he, hat⟩ := T.hd hi
 have hat' : a.at_ = atI Lf i := by unfold atI; rw [hb, hat]
 have rest := S3 T hN hfg hg hi h0 h32 hK'
 show E7 n Lr Lf i o (A6 N f (PS Lr i o)) (BR N g (RS Lf i o))
 have hR : ∀ v : Int, fi (fun x => a.text_ == x) NM = v -> A6 N f (PS Lr i o) =
   bif (a.kind_ == 1) then ((Cm N a.text_).bind fun r74 => (bif (r74.2 || ((decide ((a.text_.length : Int) > 7)) || (decide (r74.1 > 1000000)))) then some (.inl ⟨60, a.at_⟩) else some (.inr (PS Lr (i + 1) o, ⟨1, r74.1, []⟩))))
   else bif ((a.kind_ == 2) && decide (v >= 0)) then some (.inr (PS Lr (i + 1) o, ⟨2, v, []⟩))
   else ((Ap N (PS Lr i o) [105, 102]).bind fun r157 => bif r157.2 then H0 N f r157.1 else ((AH N r157.1 [40]).bind fun r348 => bif r348 then Q0 N f r157.1 else some (.inl ⟨60, a.at_⟩))) := by
  intro v hv
  unfold A6
  rw [show (PS Lr i o).l_ = Lr.drop i from rfl, hc, Option.bind_some, Oo, Option.bind_some, Rj hN, Option.bind_some, Option.bind_some, hv, L9 T hi]
  rfl
 have hF : BR N g (RS Lf i o) =
   ((bif (b.Kind == 1) then ((CZ N b.Text).bind fun r75 => some (decide (r75 >= 0))) else some false).bind fun j65 => (bif j65 then ((CZ N b.Text).bind fun r88 => some (RS Lf (i + 1) o, (⟨1, r88, []⟩ : Expr))) else
    ((AL (BL N g (RS Lf i o) (b.Kind, b.At, b.Text) j65 NM) N 0).bind fun q => q.k (fun r => some r) (fun _ => ((AF N (RS Lf i o) [40]).bind fun r193 => bif r193 then P0 N g (RS Lf i o) else ((Az N (RS Lf i o) [105, 102]).bind (zF0 N g))))))) := by
  unfold BR
  rw [show ((RS Lf i o).Bad != 0) = false from rfl, cond_false, show (RS Lf i o).L = Lf from rfl, show (RS Lf i o).At = (i : Int) from rfl, hd]
  simp only [Option.bind_some, To, zW1 T hi]
  rfl
 have hit : ∀ j65, AL (BL N g (RS Lf i o) (b.Kind, b.At, b.Text) j65 NM) N 0 = some (bif NM.any (fun x => (b.Kind == 2) && (b.Text == x)) then .ret (RS Lf (i + 1) o, ⟨2, (NM.findIdx (fun x => (b.Kind == 2) && (b.Text == x)) : Int), []⟩) else .done (NM.length : Int)) := fun j65 =>
  E4 NM (fun x => (b.Kind == 2) && (b.Text == x)) (fun k => ((RS Lf (i + 1) o, (⟨2, (k : Int), []⟩ : Expr)) : Aa × Expr)) (body := BL N g (RS Lf i o) (b.Kind, b.At, b.Text) j65 NM) (fun k hk => by
   unfold BL
   rw [Gu hk, cond_true]
   simp only [Dd hk]
   rw [show (⟨(RS Lf i o).L, W64 ((RS Lf i o).At + 1), (RS Lf i o).Open, (RS Lf i o).Bad, (RS Lf i o).Where⟩ : Aa) = RS Lf (i + 1) o from L2 T hi o]
   cases b.Kind == 2 <;> rfl) (by unfold BL; rw [Gv, cond_false]) (show 14 < N by omega) (by decide)
 rw [hR _ rfl, hF, hat']
 have notwo : ¬ b.Kind = 2 -> NM.any (fun x => (b.Kind == 2) && (b.Text == x)) = false := fun h => by
  rw [List.any_eq_false]; intro x _; simp [h]
 have other : ¬ a.kind_ = 1 -> ¬ b.Kind = 1 -> ¬ a.kind_ = 2 -> ¬ b.Kind = 2 -> E7 n Lr Lf i o
   (bif (a.kind_ == 1) then ((Cm N a.text_).bind fun r74 => (bif (r74.2 || ((decide ((a.text_.length : Int) > 7)) || (decide (r74.1 > 1000000)))) then some (.inl ⟨60, atI Lf i⟩) else some (.inr (PS Lr (i + 1) o, ⟨1, r74.1, []⟩))))
   else bif ((a.kind_ == 2) && decide (fi (fun x => a.text_ == x) NM >= 0)) then some (.inr (PS Lr (i + 1) o, ⟨2, fi (fun x => a.text_ == x) NM, []⟩))
   else ((Ap N (PS Lr i o) [105, 102]).bind fun r157 => bif r157.2 then H0 N f r157.1 else ((AH N r157.1 [40]).bind fun r348 => bif r348 then Q0 N f r157.1 else some (.inl ⟨60, atI Lf i⟩))))
   ((bif (b.Kind == 1) then ((CZ N b.Text).bind fun r75 => some (decide (r75 >= 0))) else some false).bind fun j65 => (bif j65 then ((CZ N b.Text).bind fun r88 => some (RS Lf (i + 1) o, (⟨1, r88, []⟩ : Expr))) else
    ((AL (BL N g (RS Lf i o) (b.Kind, b.At, b.Text) j65 NM) N 0).bind fun q => q.k (fun r => some r) (fun _ => ((AF N (RS Lf i o) [40]).bind fun r193 => bif r193 then P0 N g (RS Lf i o) else ((Az N (RS Lf i o) [105, 102]).bind (zF0 N g))))))) := by
  intro k1 k1' k2 k2'
  rw [show (a.kind_ == 1) = false by simpa using k1, show (a.kind_ == 2) = false by simpa using k2, show (b.Kind == 1) = false by simpa using k1']
  simp only [cond_false, Bool.false_and, Option.bind_some]
  rw [hit, notwo k2']
  simp only [cond_false, Option.bind_some, Be.k]
  exact rest
 have ht1 : ∀ (op v : Int), Ht 10 (i + 1 - i) ⟨op, v, []⟩ := fun op v => by
  rw [show i + 1 - i = 0 + 1 by omega]
  exact ⟨by show 0 < 10; omega, by show 0 < 9223372036854775808; omega, fun u hu => by cases hu⟩
 rcases he with ⟨hcc, hlt⟩ | ⟨hee, _⟩
 ·rcases hcc.k with ⟨k1, k2, k3, k4, k5, k6⟩ | ⟨k1, k2, k3, _⟩ | ⟨k1, k2, _⟩ | ⟨k1, k2, _⟩ | ⟨k1, k2⟩
  ·-- a number
   obtain ⟨r, hr, hbad, hgood⟩ := Tp (N := N) k6 k4 k5
   rw [k1, k2, k3, hr, Tn k6 hN]
   rw [show ((1 : Int) == 1) = true from rfl]
   simp only [cond_true, Option.bind_some, hbad]
   by_cases hf : fig b.Text < 0
   ·rw [decide_eq_true hf, decide_eq_false (by omega)]
    simp only [cond_true, cond_false]
    have hno : Se Lf i [40] = false := by unfold Se; rw [hb]; show seeF b [40] = false; unfold seeF; rw [k2]; rfl
    have hno2 : Se Lf i [105, 102] = false := by unfold Se; rw [hb]; show seeF b [105, 102] = false; unfold seeF; rw [k2]; rfl
    have hit' := hit false
    rw [k2] at hit'
    rw [hit', show (NM.any fun x => ((1 : Int) == 2) && (b.Text == x)) = false by rw [List.any_eq_false]; intro x _; simp]
    simp only [cond_false, Option.bind_some, Be.k]
    rw [ES T hi, hno]
    simp only [Option.bind_some, cond_false]
    rw [GS T hi, hno2]
    simp only [Option.bind_some, cond_false]
    exact E7.fail rfl (zd0 T hg (by decide)) (by decide) hi
   ·rw [decide_eq_false hf, decide_eq_true (by omega)]
    simp only [cond_true, cond_false]
    refine ⟨_, _, rfl, rfl, ?_⟩
    rw [hgood (by omega)]
    exact .ok (i + 1) _ (by omega) hlt (ht1 _ _)
  ·-- a word
   rw [k1, k2, k3]
   rw [show ((2 : Int) == 1) = false from rfl, show ((2 : Int) == 2) = true from rfl]
   simp only [cond_false, Bool.true_and, Option.bind_some]
   have hit' := hit false
   rw [k2, show ((2 : Int) == 2) = true from rfl] at hit'
   simp only [Bool.true_and] at hit'
   rw [hit']
   by_cases hf : NM.any (fun x => b.Text == x) = true
   ·have hv : fi (fun x => b.Text == x) NM = (NM.findIdx (fun x => b.Text == x) : Int) := by unfold fi; rw [if_pos hf]
    rw [hf, hv, decide_eq_true (by omega)]
    simp only [cond_true, Option.bind_some, Be.k]
    exact ⟨_, _, rfl, rfl, .ok (i + 1) _ (by omega) hlt (ht1 _ _)⟩
   ·rw [Bool.not_eq_true] at hf
    have hv : fi (fun x => b.Text == x) NM < 0 := Vv.2 hf
    rw [hf, decide_eq_false (by omega)]
    simp only [cond_false, Option.bind_some, Be.k]
    exact rest
  ·exact other (by omega) (by omega) (by omega) (by omega)
  ·exact other (by omega) (by omega) (by omega) (by omega)
  ·exact other (by omega) (by omega) (by omega) (by omega)
 ·have := hee.a0
  have := hee.b5
  exact other (by omega) (by omega) (by omega) (by omega)
theorem RC (hN : n + 200 <= N) : ∀ k, Agr n Lr Lf 7 k (Bj N k).q145 (CQ N k).q89 /\ Agr n Lr Lf 6 k (Bj N k).q185 (CQ N k).q146 /\ Agr n Lr Lf 5 k (Bj N k).q212 (CQ N k).q186 /\
  Agr n Lr Lf 4 k (Bj N k).q226 (CQ N k).q213 /\ Agr n Lr Lf 3 k (Bj N k).q233 (CQ N k).q227 /\ Agr n Lr Lf 2 k (Bj N k).q239 (CQ N k).q234 /\ Agr n Lr Lf 1 k (Bj N k).q243 (CQ N k).q240
 | 0 => by
  have no : ∀ {c : Nat} {f g}, 0 < c -> Agr n Lr Lf c 0 f g := fun hc i o hi _ _ h => absurd h (by omega)
  exact ⟨no (by omega), no (by omega), no (by omega), no (by omega), no (by omega), no (by omega), no (by omega)⟩
 | k + 1 => by
  obtain ⟨a7, a6, a5, a4, a3, a2, a1⟩ := RC hN k
  have wrap : ∀ {P : Option (Ag ⊕ (Ab × Expr))} {p}, P = some p -> (P.bind fun r39 => sk r39 (fun b52 => some (.inl b52)) (fun r42 => some (.inr (r42.1, r42.2)))) = some p := by
   rintro _ p rfl
   cases p <;> rfl
  refine ⟨?_, ?_, TL T a5 a4, SM T a3, ?_, ?_, Ts T (by omega) a7 ?_⟩
  ·intro i o hi h0 h32 hK
   obtain ⟨p, r, e1, e2, h⟩ := Hs T (N := N) (by omega) a6 (R3 T (k := [111, 114]) (by decide) (z := 5)) (lt1 T) (fun r => Su T _ (RS Lf i o) r) hi h0 h32 (by omega)
   exact ⟨p, r, wrap e1, e2, h⟩
  ·intro i o hi h0 h32 hK
   obtain ⟨p, r, e1, e2, h⟩ := Hs T (N := N) (by omega) a5 (R3 T (k := [97, 110, 100]) (by decide) (z := 4)) (lt1 T) (fun r => Sv T _ (RS Lf i o) r) hi h0 h32 (by omega)
   exact ⟨p, r, wrap e1, e2, h⟩
  ·intro i o hi h0 h32 hK
   obtain ⟨p, r, e1, e2, h⟩ := Hs T (N := N) (by omega) a2 (VV T (k1 := [43]) (k2 := [45]) (by decide) (by decide) (by decide) (z1 := 8) (z2 := 9)) (lt2 T) (fun r => TV T _ (RS Lf i o) r) hi h0 h32 (by omega)
   exact ⟨p, r, wrap e1, e2, h⟩
  ·intro i o hi h0 h32 hK
   obtain ⟨p, r, e1, e2, h⟩ := Hs T (N := N) (by omega) a1 (R3 T (k := [42]) (by decide) (z := 10)) (lt1 T) (fun r => Sr T _ (RS Lf i o) r) hi h0 h32 (by omega)
   exact ⟨p, r, wrap e1, e2, h⟩
  ·intro h8 j o e w he
   obtain ⟨q, rfl⟩ : ∃ q, k = q + 7 := ⟨k - 7, by omega⟩
   exact NT (by omega) he q
end
end Go.Proofs.YtaihlcdkcampbaaGreatDoor
