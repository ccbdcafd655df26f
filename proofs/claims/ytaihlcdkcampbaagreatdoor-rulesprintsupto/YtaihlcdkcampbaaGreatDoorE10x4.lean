/- Lemmas of the claim RulesPrintsUpto, printed by a program of the claimant and by hand. No statement of the seat is proved here. -/
import Derived.Test.YtaihlcdkcampbaaGreatDoorE10x3
set_option linter.unusedVariables false
set_option linter.unusedSimpArgs false
set_option linter.unusedSectionVars false
set_option maxHeartbeats 4000000
set_option maxRecDepth 100000
namespace Go.Proofs.YtaihlcdkcampbaaGreatDoor
def Ej (N : Nat) (sR243 : Ab -> Option (Ah ⊕ (Ab × Expr))) (x0 : Ab) : Option (Ah ⊕ (Ab × Expr)) :=
 ((Bt N x0 (fun y => sR243 y) (EL ([] : List (SF × Int)) ([42] : SF) 10)).bind fun r37 => sk r37 (fun b49 => some (.inl b49)) (fun r40 => some (.inr (r40.1, r40.2))))
theorem Ha (N : Nat) (sR243 : Ab -> Option (Ah ⊕ (Ab × Expr))) (hsR243 : MB sR243) {wb w0 : World} {Fb F0 : Mem} {Lf : Own} (hG : B0 F0) (bp0 : Nat) (x0 : Ab) (a0_0 : SG) (n0_0 : Nat) (hb0_0 : LC x0.l_.length n0_0) (hs0_0 : SlA Af F0 a0_0 x0.l_) (hs0 : HS wb Fb w0 F0 ((sb bp0 (Ad x0 a0_0 n0_0) 100) :: Lf)) (r : (Ah ⊕ (Ab × Expr))) (h : Ej N sR243 x0 = some r) :
  Calls Tryz.prog 239 ([(pt bp0 0)] : List Value).toArray w0 (BB wb Fb F0 Lf r (fun b => (.iface 158 (.agg (AL b)))) fun a F' v L' => ∃ (aq0_0 : SG) (nq0_0 : Nat) (aq1_2 : SG) (nq1_2 : Nat), v = (.agg (Ag a.2 aq1_2 nq1_2)) /\ L' = (sb bp0 (Ad a.1 aq0_0 nq0_0) 100) :: Lf /\ LC a.1.l_.length nq0_0 /\ SlA Af F' aq0_0 a.1.l_ /\ LC a.2.Kids.length nq1_2 /\ SlA Ao F' aq1_2 a.2.Kids) := by
 refine Go 9 Tryz.func239 ?_
 refine Sq (Rg [0] ?_)
 refine Al' 33 #[(vi 0), (vi 0), (.slice none ([] : List Expr).length 0)] hs0 (fun b21 w22 hs23 => ?_)
 refine Nss (Rg [0, 1, 2, 3, 4, 5, 6, 7] ?_)
 refine Vs 3 ?_
 refine RWP.makeMap (t := 198) (K := EF) (T := Ck) (dst := (some 6)) (ty := 198) (g := none) (by kernel_rfl) rfl hs23 (fun b25 e26 w27 (hs28 : HS wb Fb w27 F0 (e26 :: (sb b21 #[(vi 0), (vi 0), (.slice none ([] : List Expr).length 0)] 33) :: (sb bp0 (Ad x0 a0_0 n0_0) 100) :: Lf)) hr29 => ?_)
 refine RWP.mapIns kl9 (ty := 0) (g := none) (mt := 198) (k := 9) (vt := 3) (m := (.tmp 6)) (x := (.const (.string ⟨([42] : SF).toArray⟩))) (y := (.const (vi 10))) (b := b25) (kx := ([42] : SF)) (u := 10) (kv := (.string ⟨(([42] : SF)).toArray⟩)) (v := (vi 10)) (K := EF) (T := Ck) (by kernel_rfl) rfl rfl rfl rfl ⟨_, rfl, rfl⟩ ⟨_, rfl, rfl⟩ (by kernel_rfl) hs28 (q := 0) rfl hr29 (fun e30 w31 (hs32 : HS wb Fb w31 F0 (e30 :: (sb b21 #[(vi 0), (vi 0), (.slice none ([] : List Expr).length 0)] 33) :: (sb bp0 (Ad x0 a0_0 n0_0) 100) :: Lf)) hr33 => ?_)
 refine Vs 1 ?_
 obtain ⟨F1, hs34, le35, hm36⟩ : ∃ Fq, HS wb Fb w31 Fq ((sb b21 #[(vi 0), (vi 0), (.slice none ([] : List Expr).length 0)] 33) :: (sb bp0 (Ad x0 a0_0 n0_0) 100) :: Lf) /\ Sh F0 Fq /\ MpA EF Ck Fq (some b25) (EL ([] : List (SF × Int)) ([42] : SF) 10) := HS.freezeMap hs32 (i := 0) rfl hr33
 obtain ⟨r37, hr38, h39⟩ := bind_some h
 refine CP Bw (BF N (hG.mono le35) bp0 x0 a0_0 n0_0 hb0_0 (Sk hs0_0 le35) 243 [(pt bp0 0)] ([] : List Value) (fun y => sR243 y) GT (fun {_ _ _ _ _} hGe y ay_0 ny_0 hby_0 hsy_0 hs r h => hsR243 hGe bp0 y ay_0 ny_0 hby_0 hsy_0 hs r h) ((EL ([] : List (SF × Int)) ([42] : SF) 10)) (some b25) hm36 hs34.pk1 _ hr38) ?_ ?_
 ·rintro r40 _ F2 w42 _ rfl hs43 le44 ⟨ar40_0_0, nr40_0_0, ar40_1_2, nr40_1_2, rfl, rfl, hbr40_0_0, hsr40_0_0, hbr40_1_2, hsr40_1_2⟩
  have h46 := BM h39
  refine St1 (Ag r40.2 ar40_1_2 nr40_1_2) hs43 (fun w47 hs48 => ?_)
  refine Nt ?_
  refine Rt ?_
  obtain rfl := Aa h46
  exact ⟨rfl, (.agg (Ag r40.2 ar40_1_2 nr40_1_2)), AC (l := [.cell 2 33]) (by kernel_rfl) (vs := [(.agg (Ag r40.2 ar40_1_2 nr40_1_2))]) ⟨b21, 0, rfl, Aj (t := 33) (g := true) (s := 3) (by kernel_rfl) hs48.at1 rfl (by decide), trivial⟩, .inl ⟨_, F2, _, _, rfl, rfl, hs48.dr1, (le35.trans le44), ⟨ar40_0_0, nr40_0_0, ar40_1_2, nr40_1_2, rfl, rfl, hbr40_0_0, hsr40_0_0, hbr40_1_2, hsr40_1_2⟩⟩⟩
 ·rintro b49 F3 w50 rfl hs51 le52
  have h53 := Bj h39
  refine Am ?_
  obtain rfl := Aa h53
  exact Cj hs51.dr0 (le35.trans le52)
def AZ (N : Nat) (x0 : Ab) (x1 : Int) (x2 : Int) : Option (Ah ⊕ Unit) :=
 some (.inl ({ e_ := x1, at_ := x2 } : Ah))
theorem AP : Al Tryz.prog 87 := fun _ _ => by kernel_rfl
theorem AW (N : Nat) {wb w0 : World} {Fb F0 : Mem} {Lf : Own} (bp0 : Nat) (x0 : Ab) (a0_0 : SG) (n0_0 : Nat) (hb0_0 : LC x0.l_.length n0_0) (hs0_0 : SlA Af F0 a0_0 x0.l_) (x1 : Int) (x2 : Int) (hs0 : HS wb Fb w0 F0 ((sb bp0 (Ad x0 a0_0 n0_0) 100) :: Lf)) (r : (Ah ⊕ Unit)) (h : AZ N x0 x1 x2 = some r) :
  Calls Tryz.prog 87 ([(pt bp0 0), (vi x1), (vi x2)] : List Value).toArray w0 (BB wb Fb F0 Lf r (fun b => (.iface 158 (.agg (AL b)))) fun a F' v L' => v = (.tuple #[]) /\ L' = (sb bp0 (Ad x0 a0_0 n0_0) 100) :: Lf) := by
 refine Go 10 Tryz.func87 ?_
 refine Rg [0, 1, 2, 3, 4] ?_
 refine Vs 3 ?_
 refine V 9 20 (FX (t := 158) (x := (.tmp 8)) (v := (.agg #[(vi x1), (vi x2)])) rfl (by kernel_rfl)) ?_
 refine RWP.panics (dst := none) (ty := 0) (g := none) (by kernel_rfl) rfl (OM (x := (.tmp 9)) (t := 158) (v := (.agg #[(vi x1), (vi x2)])) rfl) rfl ?_
 obtain rfl := Aa h
 exact Cj hs0.dr0 (Si _)
def A9 (N : Nat) (x0 : Ab) (x1 : SF) : Option (Ah ⊕ Ab) :=
 ((Au N x0 x1).bind fun r21 => (bif (!r21.2) then ((idx r21.1.l_ 0).bind fun x31 => ((AZ N r21.1 60 x31.at_).bind fun r45 => sk r45 (fun b50 => some (.inl b50)) (fun r48 => none))) else some (.inr r21.1)))
theorem A5 : Al Tryz.prog 135 := fun _ _ => by kernel_rfl
theorem Ba (N : Nat) {wb w0 : World} {Fb F0 : Mem} {Lf : Own} (bp0 : Nat) (x0 : Ab) (a0_0 : SG) (n0_0 : Nat) (hb0_0 : LC x0.l_.length n0_0) (hs0_0 : SlA Af F0 a0_0 x0.l_) (x1 : SF) (hs0 : HS wb Fb w0 F0 ((sb bp0 (Ad x0 a0_0 n0_0) 100) :: Lf)) (r : (Ah ⊕ Ab)) (h : A9 N x0 x1 = some r) :
  Calls Tryz.prog 135 ([(pt bp0 0), (.string ⟨(x1).toArray⟩)] : List Value).toArray w0 (BB wb Fb F0 Lf r (fun b => (.iface 158 (.agg (AL b)))) fun a F' v L' => ∃ (aq0_0 : SG) (nq0_0 : Nat), v = (.tuple #[]) /\ L' = (sb bp0 (Ad a aq0_0 nq0_0) 100) :: Lf /\ LC a.l_.length nq0_0 /\ SlA Af F' aq0_0 a.l_) := by
 refine Go 17 Tryz.func135 ?_
 refine Sq (Rg [0, 1, 2, 3] ?_)
 refine Vs 2 ?_
 obtain ⟨r21, hr22, h23⟩ := bind_some h
 refine CB AH (AK N bp0 x0 a0_0 n0_0 hb0_0 hs0_0 x1 hs0 _ hr22) ?_
 rintro _ F1 w24 _ hs25 le26 ⟨ar21_0_0, nr21_0_0, rfl, rfl, hbr21_0_0, hsr21_0_0⟩
 refine Vs 1 ?_
 refine Nt ?_
 refine Cd h23 (fun hb28 h29 => ?_) (fun hb28 h30 => ?_)
 ·refine Rg [0, 1, 2, 3, 4, 5, 6, 7, 8] ?_
  refine Vs 4 ?_
  refine Ld hs25.at0 ?_
  obtain ⟨x31, hx32, h34⟩ := bind_some h29
  obtain ⟨hi33, hx32'⟩ := Ap hx32
  obtain ⟨b35, o36, C37, E38, fz39, rfl, hF41, hE42⟩ := Su hsr21_0_0 hx32'
  have hc44 := hE42 _ _ hx32'
  refine Ix hi33 ?_
  refine Vs 1 ?_
  refine Lx 1 (hs25.pers _ _ hF41) hc44 ?_
  obtain ⟨r45, hr46, h47⟩ := bind_some h34
  refine CP AP (AW N bp0 r21.1 (some ⟨b35, o36, none⟩) nr21_0_0 hbr21_0_0 hsr21_0_0 60 x31.at_ hs25 _ hr46) ?_ ?_
  ·rintro _ _ _ _ _ rfl _ _ _; cases hr46
  ·rintro b50 F3 w51 rfl hs52 le53
   have h54 := Bj h47
   obtain rfl := Aa h54
   exact Cj hs52 (le26.trans le53)
 ·refine Sc ?_
  obtain rfl := Aa h30
  exact ReP [] hs25 le26 ⟨ar21_0_0, nr21_0_0, rfl, rfl, hbr21_0_0, hsr21_0_0⟩
def Cl (N : Nat) (x0 : (List SF)) (x1 : SF) : Int -> Option (Bi Int Int) := fun s24 =>
 (bif (decide (s24 < (x0.length : Int))) then ((idx x0 s24).bind fun x47 => (bif (x1 == x47) then some (.ret s24) else some (.next (W64 (s24 + 1))))) else some (.done s24))
def CF (N : Nat) (x0 : (List SF)) (x1 : SF) : Option Int :=
 ((A0 (Cl N x0 x1) N 0).bind fun o => o.k (fun r => some r) (fun s33 => some (-1)))
theorem D5 : Al Tryz.prog 247 := fun _ _ => by kernel_rfl
theorem Ee (N : Nat) (w0 : World) (F0 : Mem) (hF : SH w0 F0) (x0 : (List SF)) (a0_0 : SG) (n0_0 : Nat) (hb0_0 : LC x0.length n0_0) (hs0_0 : SlA EF F0 a0_0 x0) (x1 : SF) (r : Int) (h : CF N x0 x1 = some r) :
  Calls Tryz.prog 247 ([(.slice a0_0 x0.length n0_0), (.string ⟨(x1).toArray⟩)] : List Value).toArray w0 (AJ w0 F0 fun F' v => v = (vi r)) := by
 have hs0 := Sj hF
 refine Go 19 Tryz.func247 ?_
 refine Sq (Rg [0] ?_)
 refine Vs 1 ?_
 refine Nss ?_
 refine Sq (Rg [0, 1, 2] ?_)
 refine Vs 3 ?_
 refine Nt ?_
 obtain ⟨o21, ho22, h23⟩ := bind_some h
 refine So (fun f w => ∃ (s33 : Int) (F2 : Mem), o21 = .done s33 /\ HS w0 F0 w F2 [] /\ Sh F0 F2 /\ FI f [] []) ?_ ?_
 ·refine Bk ?_
  refine Sg (by kernel_rfl) (fun m f w => ∃ (s24 : Int) (F1 : Mem), A0 (Cl N x0 x1) m s24 = some o21 /\ HS w0 F0 w F1 [] /\ Sh F0 F1 /\ FI f [] [(0, (.slice a0_0 x0.length n0_0)), (1, (.string ⟨(x1).toArray⟩)), (7, (vi (x0.length : Int))), (8, (vi s24))]) N ⟨0, F0, ho22, hs0, (Si _), fI⟩ ?_
  rintro m38 f w25 ⟨s24, F1, hit39, hs26, le27, ⟨_, rfl⟩⟩
  obtain ⟨m40, fl41, rfl, hb42, hnx43⟩ := AQ hit39
  refine Sq (Rg [0] ?_)
  refine Vs 1 ?_
  refine Nss ?_
  refine Cd hb42 (fun hb44 h45 => ?_) (fun hb44 h46 => ?_)
  ·refine Sc ?_
   refine Ac ?_
   refine Sq ?_
   refine Bk ?_
   refine Sq (Rg [0, 1] ?_)
   refine Vs 2 ?_
   refine Nss (Rg [0, 1, 2, 3, 4, 5] ?_)
   refine Vs 3 ?_
   obtain ⟨x47, hx48, h50⟩ := bind_some h45
   obtain ⟨hi49, hx48'⟩ := Ap hx48
   obtain ⟨b51, o52, C53, E54, fz55, rfl, hF57, hE58⟩ := Su (Sk hs0_0 le27) hx48'
   have hc60 := hE58 _ _ hx48'
   refine Ix hi49 ?_
   refine Lx 0 (hs26.pers _ _ hF57) hc60 ?_
   refine Vs 1 ?_
   refine Nt ?_
   refine Cd h50 (fun hb61 h62 => ?_) (fun hb61 h63 => ?_)
   ·refine Sq (Rg [0, 1] ?_)
    refine Vs 2 ?_
    refine Nt ?_
    refine Rt ?_
    refine Ai ?_
    refine Ae ?_
    refine Ae ?_
    refine Ai ?_
    have hret := BJ h62 hnx43
    subst hret
    refine .inr ?_
    refine Ae ?_
    obtain rfl := Aa h23
    exact Re [(vi s24)] hs26 rfl
   ·refine Sc ?_
    refine Aq ?_
    refine Ac ?_
    refine Rg [0, 1] ?_
    refine Vs 2 ?_
    refine Sd ?_
    have hn64 := AM h63 hnx43
    exact ⟨m40, Nat.lt_succ_self _, (W64 (s24 + 1)), F1, hn64, hs26, le27, fI⟩
  ·refine Ex ?_
   refine Av ?_
   refine Av ?_
   refine AE rfl ?_
   have ho65 := AX h46 hnx43
   exact .inl ⟨rfl, s24, F1, ho65, hs26, le27, fI⟩
 ·rintro f w34 ⟨s33, F2, rfl, hs35, le36, ⟨_, rfl⟩⟩
  have h66 := Bo h23
  refine Ac ?_
  refine Sq (Rg [0] ?_)
  refine Vs 1 ?_
  refine Nt ?_
  refine Rt ?_
  obtain rfl := Aa h66
  exact Re [(vi (-1))] hs35 rfl
def Co (N : Nat) (x0 : Ab) : Option (Ah ⊕ Ab) :=
 ((idx x0.l_ 0).bind fun x21 => (((AY N x0 ([40] : SF)).bind fun r45 => (bif r45 then some (x0.open_ == 32) else some false)).bind fun j38 => (bif j38 then ((AZ N x0 2 x21.at_).bind fun r58 => sk r58 (fun b63 => some (.inl b63)) (fun r61 => none)) else ((A9 N x0 ([40] : SF)).bind fun r69 => sk r69 (fun b81 => some (.inl b81)) (fun r72 => some (.inr ({ l_ := r72.l_, open_ := (W64 (r72.open_ + 1)) } : Ab)))))))
theorem DD : Al Tryz.prog 249 := fun _ _ => by kernel_rfl
theorem D9 (N : Nat) {wb w0 : World} {Fb F0 : Mem} {Lf : Own} (bp0 : Nat) (x0 : Ab) (a0_0 : SG) (n0_0 : Nat) (hb0_0 : LC x0.l_.length n0_0) (hs0_0 : SlA Af F0 a0_0 x0.l_) (hs0 : HS wb Fb w0 F0 ((sb bp0 (Ad x0 a0_0 n0_0) 100) :: Lf)) (r : (Ah ⊕ Ab)) (h : Co N x0 = some r) :
  Calls Tryz.prog 249 ([(pt bp0 0)] : List Value).toArray w0 (BB wb Fb F0 Lf r (fun b => (.iface 158 (.agg (AL b)))) fun a F' v L' => ∃ (aq0_0 : SG) (nq0_0 : Nat), v = (.tuple #[]) /\ L' = (sb bp0 (Ad a aq0_0 nq0_0) 100) :: Lf /\ LC a.l_.length nq0_0 /\ SlA Af F' aq0_0 a.l_) := by
 refine Go 31 Tryz.func249 ?_
 refine Sq ?_
 refine Sq (Rg [0, 1, 2, 3, 4, 5, 6, 7] ?_)
 refine Vs 3 ?_
 refine Ld hs0.at0 ?_
 obtain ⟨x21, hx22, h24⟩ := bind_some h
 obtain ⟨hi23, hx22'⟩ := Ap hx22
 obtain ⟨b25, o26, C27, E28, fz29, rfl, hF31, hE32⟩ := Su hs0_0 hx22'
 have hc34 := hE32 _ _ hx22'
 refine Ix hi23 ?_
 refine Vs 1 ?_
 refine Lx 1 (hs0.pers _ _ hF31) hc34 ?_
 refine Vs 1 ?_
 refine Nss (Rg [0, 1, 2, 3, 4, 5, 6, 7, 8] ?_)
 obtain ⟨j38, hj43, h44⟩ := bind_some h24
 refine Sn (fun f w => ∃ (F1 : Mem), HS wb Fb w F1 ((sb bp0 (Ad x0 (some ⟨b25, o26, none⟩) n0_0) 100) :: Lf) /\ Sh F0 F1 /\ FI f [] [(0, (pt bp0 0)), (2, (vi x21.at_)), (18, (.bool j38))]) ?_ ?_
 ·refine Vs 1 ?_
  obtain ⟨r45, hr46, h47⟩ := bind_some hj43
  refine CB B4 (B9 N bp0 x0 (some ⟨b25, o26, none⟩) n0_0 hb0_0 hs0_0 (([40] : SF)) hs0 _ hr46) ?_
  rintro _ F2 w48 _ hs49 le50 ⟨rfl, rfl⟩
  refine Vs 1 ?_
  refine Sp h47 (fun hb52 h53 => ?_) (fun hb52 h54 => ?_)
  ·refine Vgs hb52 3 ?_
   refine Lg hb52 hs49.at0 ?_
   refine Vgs hb52 1 ?_
   refine Pk1 hb52 ?_
   obtain rfl := Aa h53
   exact Sd ⟨rfl, F2, hs49, le50, fI⟩
  ·refine Ss hb52 5 ?_
   refine Pk0 hb52 ?_
   obtain rfl := Aa h54
   exact Sd ⟨rfl, F2, hs49, le50, fI⟩
 ·rintro f w35 ⟨F1, hs36, le37, ⟨_, rfl⟩⟩
  refine Ac ?_
  refine Cd h44 (fun hb55 h56 => ?_) (fun hb55 h57 => ?_)
  ·refine Rg [0, 1, 2] ?_
   refine Vs 2 ?_
   obtain ⟨r58, hr59, h60⟩ := bind_some h56
   refine CP AP (AW N bp0 x0 (some ⟨b25, o26, none⟩) n0_0 hb0_0 (Sk hs0_0 le37) 2 x21.at_ hs36 _ hr59) ?_ ?_
   ·rintro _ _ _ _ _ rfl _ _ _; cases hr59
   ·rintro b63 F4 w64 rfl hs65 le66
    have h67 := Bj h60
    refine Am ?_
    obtain rfl := Aa h67
    exact Cj hs65 (le37.trans le66)
  ·refine Sc ?_
   refine Ac ?_
   refine Sq (Rg [0, 1] ?_)
   refine Vs 1 ?_
   obtain ⟨r69, hr70, h71⟩ := bind_some h57
   refine CP A5 (Ba N bp0 x0 (some ⟨b25, o26, none⟩) n0_0 hb0_0 (Sk hs0_0 le37) (([40] : SF)) hs36 _ hr70) ?_ ?_
   ·rintro r72 _ F5 w74 _ rfl hs75 le76 ⟨ar72_0_0, nr72_0_0, rfl, rfl, hbr72_0_0, hsr72_0_0⟩
    have h78 := BM h71
    refine Nt ?_
    refine Rg [0, 1, 2, 3, 4, 5, 6, 7] ?_
    refine Vs 3 ?_
    refine Ld hs75.at0 ?_
    refine Vs 3 ?_
    refine St0 #[(.slice ar72_0_0 r72.l_.length nr72_0_0), (vi (W64 (r72.open_ + 1)))] hs75 (fun w79 hs80 => ?_)
    refine Sd ?_
    obtain rfl := Aa h78
    exact ReP [] hs80 (le37.trans le76) ⟨ar72_0_0, nr72_0_0, rfl, rfl, hbr72_0_0, hsr72_0_0⟩
   ·rintro b81 F6 w82 rfl hs83 le84
    have h85 := Bj h71
    refine Am ?_
    obtain rfl := Aa h85
    exact Cj hs83 (le37.trans le84)
def Cn (N : Nat) (x0 : Ab) : Option (Ah ⊕ Ab) :=
 ((A9 N x0 ([41] : SF)).bind fun r21 => sk r21 (fun b33 => some (.inl b33)) (fun r24 => some (.inr ({ l_ := r24.l_, open_ := (W64 (r24.open_ - 1)) } : Ab))))
theorem DC : Al Tryz.prog 250 := fun _ _ => by kernel_rfl
theorem D8 (N : Nat) {wb w0 : World} {Fb F0 : Mem} {Lf : Own} (bp0 : Nat) (x0 : Ab) (a0_0 : SG) (n0_0 : Nat) (hb0_0 : LC x0.l_.length n0_0) (hs0_0 : SlA Af F0 a0_0 x0.l_) (hs0 : HS wb Fb w0 F0 ((sb bp0 (Ad x0 a0_0 n0_0) 100) :: Lf)) (r : (Ah ⊕ Ab)) (h : Cn N x0 = some r) :
  Calls Tryz.prog 250 ([(pt bp0 0)] : List Value).toArray w0 (BB wb Fb F0 Lf r (fun b => (.iface 158 (.agg (AL b)))) fun a F' v L' => ∃ (aq0_0 : SG) (nq0_0 : Nat), v = (.tuple #[]) /\ L' = (sb bp0 (Ad a aq0_0 nq0_0) 100) :: Lf /\ LC a.l_.length nq0_0 /\ SlA Af F' aq0_0 a.l_) := by
 refine Go 11 Tryz.func250 ?_
 refine Sq (Rg [0, 1] ?_)
 refine Vs 1 ?_
 obtain ⟨r21, hr22, h23⟩ := bind_some h
 refine CP A5 (Ba N bp0 x0 a0_0 n0_0 hb0_0 hs0_0 (([41] : SF)) hs0 _ hr22) ?_ ?_
 ·rintro r24 _ F1 w26 _ rfl hs27 le28 ⟨ar24_0_0, nr24_0_0, rfl, rfl, hbr24_0_0, hsr24_0_0⟩
  have h30 := BM h23
  refine Nt ?_
  refine Rg [0, 1, 2, 3, 4, 5, 6, 7] ?_
  refine Vs 3 ?_
  refine Ld hs27.at0 ?_
  refine Vs 3 ?_
  refine St0 #[(.slice ar24_0_0 r24.l_.length nr24_0_0), (vi (W64 (r24.open_ - 1)))] hs27 (fun w31 hs32 => ?_)
  refine Sd ?_
  obtain rfl := Aa h30
  exact ReP [] hs32 le28 ⟨ar24_0_0, nr24_0_0, rfl, rfl, hbr24_0_0, hsr24_0_0⟩
 ·rintro b33 F2 w34 rfl hs35 le36
  have h37 := Bj h23
  refine Am ?_
  obtain rfl := Aa h37
  exact Cj hs35 le36
def Ek (N : Nat) (sR145 : Ab -> Option (Ah ⊕ (Ab × Expr))) (x0 : Ab) : Option (Ah ⊕ (Ab × Expr)) :=
 ((idx x0.l_ 0).bind fun x24 => (((E6 N ).bind fun r56 => ((CF N r56 x24.text_).bind fun r64 => some r64)).bind fun j48 => (bif (x24.kind_ == 1) then ((FU N x24.text_).bind fun r75 => (bif (r75.2 || ((decide ((x24.text_.length : Int) > 7)) || (decide (r75.1 > 1000000)))) then ((AZ N x0 60 x24.at_).bind fun r97 => sk r97 (fun b102 => some (.inl b102)) (fun r100 => none)) else ((sub x0.l_ 1 (x0.l_.length : Int)).bind fun r108 => some (.inr (({ l_ := r108, open_ := x0.open_ } : Ab), ({ Op := 1, Value := r75.1, Kids := ([] : List Expr) } : Expr)))))) else (bif ((x24.kind_ == 2) && (decide (j48 >= 0))) then ((sub x0.l_ 1 (x0.l_.length : Int)).bind fun r133 => some (.inr (({ l_ := r133, open_ := x0.open_ } : Ab), ({ Op := 2, Value := j48, Kids := ([] : List Expr) } : Expr)))) else ((Au N x0 ([105, 102] : SF)).bind fun r145 => (bif r145.2 then ((Co N r145.1).bind fun r155 => sk r155 (fun b291 => some (.inl b291)) (fun r158 => ((sR145 r158).bind fun r165 => sk r165 (fun b285 => some (.inl b285)) (fun r168 => ((A9 N r168.1 ([44] : SF)).bind fun r180 => sk r180 (fun b279 => some (.inl b279)) (fun r183 => ((sR145 r183).bind fun r190 => sk r190 (fun b273 => some (.inl b273)) (fun r193 => ((A9 N r193.1 ([44] : SF)).bind fun r206 => sk r206 (fun b267 => some (.inl b267)) (fun r209 => ((sR145 r209).bind fun r216 => sk r216 (fun b261 => some (.inl b261)) (fun r219 => ((Cn N r219.1).bind fun r232 => sk r232 (fun b254 => some (.inl b254)) (fun r235 => some (.inr (r235, ({ Op := 11, Value := 0, Kids := [r168.2, r193.2, r219.2] } : Expr))))))))))))))))) else ((AY N r145.1 ([40] : SF)).bind fun r297 => (bif r297 then ((Co N r145.1).bind fun r307 => sk r307 (fun b356 => some (.inl b356)) (fun r310 => ((sR145 r310).bind fun r317 => sk r317 (fun b350 => some (.inl b350)) (fun r320 => ((Cn N r320.1).bind fun r332 => sk r332 (fun b344 => some (.inl b344)) (fun r335 => some (.inr (r335, r320.2)))))))) else ((AZ N r145.1 60 x24.at_).bind fun r362 => sk r362 (fun b367 => some (.inl b367)) (fun r365 => none))))))))))
theorem Hb (N : Nat) (sR145 : Ab -> Option (Ah ⊕ (Ab × Expr))) (hsR145 : ML sR145) {wb w0 : World} {Fb F0 : Mem} {Lf : Own} (hG : B0 F0) (bp0 : Nat) (x0 : Ab) (a0_0 : SG) (n0_0 : Nat) (hb0_0 : LC x0.l_.length n0_0) (hs0_0 : SlA Af F0 a0_0 x0.l_) (hs0 : HS wb Fb w0 F0 ((sb bp0 (Ad x0 a0_0 n0_0) 100) :: Lf)) (r : (Ah ⊕ (Ab × Expr))) (h : Ek N sR145 x0 = some r) :
  Calls Tryz.prog 243 ([(pt bp0 0)] : List Value).toArray w0 (BB wb Fb F0 Lf r (fun b => (.iface 158 (.agg (AL b)))) fun a F' v L' => ∃ (aq0_0 : SG) (nq0_0 : Nat) (aq1_2 : SG) (nq1_2 : Nat), v = (.agg (Ag a.2 aq1_2 nq1_2)) /\ L' = (sb bp0 (Ad a.1 aq0_0 nq0_0) 100) :: Lf /\ LC a.1.l_.length nq0_0 /\ SlA Af F' aq0_0 a.1.l_ /\ LC a.2.Kids.length nq1_2 /\ SlA Ao F' aq1_2 a.2.Kids) := by
 refine Go 112 Tryz.func243 ?_
 refine Sq (Rg [0] ?_)
 refine Al' 33 #[(vi 0), (vi 0), (.slice none ([] : List Expr).length 0)] hs0 (fun b21 w22 hs23 => ?_)
 refine Nss (Rg [0, 1, 2, 3, 4, 5, 6, 7] ?_)
 refine Vs 3 ?_
 refine Ld hs23.at1 ?_
 obtain ⟨x24, hx25, h27⟩ := bind_some h
 obtain ⟨hi26, hx25'⟩ := Ap hx25
 obtain ⟨b28, o29, C30, E31, fz32, rfl, hF34, hE35⟩ := Su hs0_0 hx25'
 have hc37 := hE35 _ _ hx25'
 refine Ix hi26 ?_
 refine Lx 0 (hs23.pers _ _ hF34) hc37 ?_
 refine Al' 97 #[(vi 0), (vi 0), (.string ⟨(([] : SF)).toArray⟩)] hs23 (fun b38 w39 hs40 => ?_)
 refine St0 (Bd x24) hs40 (fun w41 hs42 => ?_)
 refine Nss ?_
 refine Sq ?_
 obtain ⟨j48, hj54, h55⟩ := bind_some h27
 refine RD 5 5 [(sb b38 (Bd x24) 97), (sb b21 #[(vi 0), (vi 0), (.slice none ([] : List Expr).length 0)] 33), (sb bp0 (Ad x0 (some ⟨b28, o29, none⟩) n0_0) 100)] [] hs42 (fun f w => ∃ (F1 : Mem), HS wb Fb w F1 ((sb b38 (Bd x24) 97) :: (sb b21 #[(vi 0), (vi 0), (.slice none ([] : List Expr).length 0)] 33) :: (sb bp0 (Ad x0 (some ⟨b28, o29, none⟩) n0_0) 100) :: Lf) /\ Sh F0 F1 /\ FI f [] [(0, (pt bp0 0)), (2, (pt b21 0)), (3, (pt b38 0)), (4, (vi j48))]) (fun wd43 hw44 => ?_) ?_
 ·refine Dv [1] ?_
  refine Dl 2 (fun _ hq => (hq.1.2 0 _ _ rfl)) ?_
  refine D1 0 ?_
  obtain ⟨r56, hr57, h58⟩ := bind_some hj54
  refine DCl GV hw44 (HM N wd43 F0 hw44.pers  _ hr57) ?_
  rintro _ F2 w60 hs61 le62 ⟨ar56_0_0, nr56_0_0, rfl, hbr56_0_0, hsr56_0_0⟩
  refine D1 3 ?_
  obtain ⟨r64, hr65, h66⟩ := bind_some h58
  refine DCl D5 hs61 (Ee N w60 F2 hs61.pers r56 ar56_0_0 nr56_0_0 hbr56_0_0 hsr56_0_0 x24.text_ _ hr65) ?_
  rintro _ F3 w68 hs69 le70 rfl
  refine Dv [4] ?_
  obtain rfl := Aa h66
  exact SA (by kernel_rfl) ⟨F3, hs69, (le62.trans le70), fI⟩
 ·rintro f w45 ⟨F1, hs46, le47, ⟨_, rfl⟩⟩
  refine Ac ?_
  refine Bk ?_
  refine Sq (Rg [0, 1, 2, 3] ?_)
  refine Vs 1 ?_
  refine Ld hs46.at0 ?_
  refine Vs 2 ?_
  refine Nt ?_
  refine Cd h55 (fun hb72 h73 => ?_) (fun hb72 h74 => ?_)
  ·refine Sq (Rg [0, 1, 2, 3, 4, 5, 6, 7] ?_)
   refine Vs 1 ?_
   refine Ld hs46.at0 ?_
   obtain ⟨r75, hr76, h77⟩ := bind_some h73
   refine Cl' JX hs46 (K2 N w45 F1 hs46.pers (hG.mono le47) x24.text_ _ hr76) ?_
   rintro _ F4 w79 hs80 le81 ⟨vr75_1_0, rfl, her75_1_0⟩
   refine Vs 5 ?_
   refine Nss ?_
   refine Sq (Rg [0, 1, 2, 3, 4, 5, 6, 7, 8, 9, 10, 11] ?_)
   refine Sn (fun f w => ∃ (F5 : Mem), HS wb Fb w F5 ((sb b38 (Bd x24) 97) :: (sb b21 #[(vi 0), (vi 0), (.slice none ([] : List Expr).length 0)] 33) :: (sb bp0 (Ad x0 (some ⟨b28, o29, none⟩) n0_0) 100) :: Lf) /\ Sh F4 F5 /\ FI f [] [(0, (pt bp0 0)), (2, (pt b21 0)), (3, (pt b38 0)), (5, (vi r75.1)), (42, (.bool (r75.2 || ((decide ((x24.text_.length : Int) > 7)) || (decide (r75.1 > 1000000))))))]) ?_ ?_
   ·refine Vs 1 ?_
    refine V 32 4 (HW (t := 134) (t' := 134) (x := (.tmp 31)) (c := .nilIface) her75_1_0 rfl rfl (by kernel_rfl)) ?_
    refine Vs 1 ?_
    refine Sm r75.2 (fun hb92 => ?_) (fun hb92 => ?_)
    ·refine Ss hb92 4 ?_
     refine Pk1 hb92 ?_
     refine Vs 1 ?_
     refine Ss (rfl : true = true) 2 ?_
     refine Pk1 (rfl : true = true) ?_
     exact Sd ⟨rfl, F4, hs80, (Si _), (fJ ⟨rfl, rfl, rfl, rfl, (congrArg Value.bool (FL hb92 rfl)), trivial⟩)⟩
    ·refine Vgs hb92 1 ?_
     refine Lg hb92 hs80.at0 ?_
     refine Vgs hb92 2 ?_
     refine Pk0 hb92 ?_
     refine Vs 1 ?_
     refine Sm (decide ((x24.text_.length : Int) > 7)) (fun hb93 => ?_) (fun hb93 => ?_)
     ·refine Ss hb93 2 ?_
      refine Pk1 hb93 ?_
      exact Sd ⟨rfl, F4, hs80, (Si _), (fJ ⟨rfl, rfl, rfl, rfl, (congrArg Value.bool (BQ hb92 (FL hb93 rfl))), trivial⟩)⟩
     ·refine Vgs hb93 2 ?_
      refine Pk0 hb93 ?_
      exact Sd ⟨rfl, F4, hs80, (Si _), (fJ ⟨rfl, rfl, rfl, rfl, (congrArg Value.bool (BQ hb92 (BQ hb93 rfl))), trivial⟩)⟩
   ·rintro f w83 ⟨F5, hs84, le85, ⟨_, rfl⟩⟩
    refine Ac ?_
    refine Cd h77 (fun hb94 h95 => ?_) (fun hb94 h96 => ?_)
    ·refine Rg [0, 1, 2, 3] ?_
     refine Vs 2 ?_
     refine Ld hs84.at0 ?_
     obtain ⟨r97, hr98, h99⟩ := bind_some h95
     refine CP AP (AW N bp0 x0 (some ⟨b28, o29, none⟩) n0_0 hb0_0 (Sk hs0_0 ((le47.trans le81).trans le85)) 60 x24.at_ hs84.pk1.pk1.pk2 _ hr98) ?_ ?_
     ·rintro _ _ _ _ _ rfl _ _ _; cases hr98
     ·rintro b102 F7 w103 rfl hs104 le105
      have h106 := Bj h99
      refine Am ?_
      refine AR ?_
      refine Am ?_
      obtain rfl := Aa h106
      exact Cj hs104.dr0.dr0 (((le47.trans le81).trans le85).trans le105)
    ·refine Sc ?_
     refine Ac ?_
     refine Sq (Rg [0, 1, 2, 3, 4, 5, 6, 7, 8] ?_)
     refine Vs 4 ?_
     refine Ld hs84.at2 ?_
     obtain ⟨r108, hr109, h110⟩ := bind_some h96
     obtain ⟨a111, n112, hb113, hs114, hrun115⟩ := KD (P := Tryz.prog) (T := Af) (lo := (some (.const (vi 1)))) (hi := none) (mx := none) (t := 98) (E := 97) (by_ := 32) (c := n0_0) (a := (some ⟨b28, o29, none⟩)) (l := x0.l_) (r := r108) (il := 1) (ih := (x0.l_.length : Int)) (im := 0) (by kernel_rfl) (by kernel_rfl) hb0_0 (Sk hs0_0 ((le47.trans le81).trans le85)) (fun h => by first | rfl | cases h) hr109
     refine V 52 98 (hrun115 (x := (.tmp 51)) rfl rfl rfl trivial) ?_
     refine Vs 2 ?_
     refine St2 #[(.slice a111 r108.length n112), (vi x0.open_)] hs84 (fun w116 hs117 => ?_)
     refine Nss (Rg [0, 1, 2] ?_)
     refine Vs 2 ?_
     refine St1 #[(vi 1), (vi r75.1), (.slice none ([] : List Expr).length 0)] hs117 (fun w118 hs119 => ?_)
     refine Nt ?_
     refine Rt ?_
     refine Ai ?_
     refine Ae ?_
     obtain rfl := Aa h110
     exact ⟨rfl, (.agg #[(vi 1), (vi r75.1), (.slice none ([] : List Expr).length 0)]), AC (l := [.cell 2 33]) (by kernel_rfl) (vs := [(.agg #[(vi 1), (vi r75.1), (.slice none ([] : List Expr).length 0)])]) ⟨b21, 0, rfl, Aj (t := 33) (g := true) (s := 3) (by kernel_rfl) hs119.at1 rfl (by decide), trivial⟩, .inl ⟨_, F5, _, _, rfl, rfl, hs119.dr0.dr0, ((le47.trans le81).trans le85), ⟨a111, n112, none, 0, rfl, rfl, hb113, hs114, Sl, (.inl rfl)⟩⟩⟩
  ·refine Sq (Rg [0, 1, 2, 3, 4, 5, 6, 7] ?_)
   refine Sn (fun f w => ∃ (F8 : Mem), HS wb Fb w F8 ((sb b38 (Bd x24) 97) :: (sb b21 #[(vi 0), (vi 0), (.slice none ([] : List Expr).length 0)] 33) :: (sb bp0 (Ad x0 (some ⟨b28, o29, none⟩) n0_0) 100) :: Lf) /\ Sh F1 F8 /\ FI f [] [(0, (pt bp0 0)), (2, (pt b21 0)), (3, (pt b38 0)), (4, (vi j48)), (57, (.bool ((x24.kind_ == 2) && (decide (j48 >= 0)))))]) ?_ ?_
   ·refine Vs 1 ?_
    refine Ld hs46.at0 ?_
    refine Vs 2 ?_
    refine Sm (x24.kind_ == 2) (fun hb129 => ?_) (fun hb129 => ?_)
    ·refine Vgs hb129 2 ?_
     refine Pk1 hb129 ?_
     refine Vs 1 ?_
     exact Sd ⟨rfl, F1, hs46, (Si _), (fJ ⟨rfl, rfl, rfl, rfl, (congrArg Value.bool (BL hb129 rfl)), trivial⟩)⟩
    ·refine Ss hb129 2 ?_
     refine Pk0 hb129 ?_
     refine Vs 1 ?_
     exact Sd ⟨rfl, F1, hs46, (Si _), (fJ ⟨rfl, rfl, rfl, rfl, (congrArg Value.bool (Dz hb129 rfl)), trivial⟩)⟩
   ·rintro f w120 ⟨F8, hs121, le122, ⟨_, rfl⟩⟩
    refine Ac ?_
    refine Cd h74 (fun hb130 h131 => ?_) (fun hb130 h132 => ?_)
    ·refine Sq (Rg [0, 1, 2, 3, 4, 5, 6, 7, 8] ?_)
     refine Vs 4 ?_
     refine Ld hs121.at2 ?_
     obtain ⟨r133, hr134, h135⟩ := bind_some h131
     obtain ⟨a136, n137, hb138, hs139, hrun140⟩ := KD (P := Tryz.prog) (T := Af) (lo := (some (.const (vi 1)))) (hi := none) (mx := none) (t := 98) (E := 97) (by_ := 32) (c := n0_0) (a := (some ⟨b28, o29, none⟩)) (l := x0.l_) (r := r133) (il := 1) (ih := (x0.l_.length : Int)) (im := 0) (by kernel_rfl) (by kernel_rfl) hb0_0 (Sk hs0_0 (le47.trans le122)) (fun h => by first | rfl | cases h) hr134
     refine V 70 98 (hrun140 (x := (.tmp 69)) rfl rfl rfl trivial) ?_
     refine Vs 2 ?_
     refine St2 #[(.slice a136 r133.length n137), (vi x0.open_)] hs121 (fun w141 hs142 => ?_)
     refine Nss (Rg [0, 1, 2] ?_)
     refine Vs 2 ?_
     refine St1 #[(vi 2), (vi j48), (.slice none ([] : List Expr).length 0)] hs142 (fun w143 hs144 => ?_)
     refine Nt ?_
     refine Rt ?_
     refine Ai ?_
     refine Ae ?_
     obtain rfl := Aa h135
     exact ⟨rfl, (.agg #[(vi 2), (vi j48), (.slice none ([] : List Expr).length 0)]), AC (l := [.cell 2 33]) (by kernel_rfl) (vs := [(.agg #[(vi 2), (vi j48), (.slice none ([] : List Expr).length 0)])]) ⟨b21, 0, rfl, Aj (t := 33) (g := true) (s := 3) (by kernel_rfl) hs144.at1 rfl (by decide), trivial⟩, .inl ⟨_, F8, _, _, rfl, rfl, hs144.dr0.dr0, (le47.trans le122), ⟨a136, n137, none, 0, rfl, rfl, hb138, hs139, Sl, (.inl rfl)⟩⟩⟩
    ·refine Sq (Rg [0, 1, 2] ?_)
     refine Vs 1 ?_
     obtain ⟨r145, hr146, h147⟩ := bind_some h132
     refine CB AH (AK N bp0 x0 (some ⟨b28, o29, none⟩) n0_0 hb0_0 (Sk hs0_0 (le47.trans le122)) (([105, 102] : SF)) hs121.pk1.pk1.pk2 _ hr146) ?_
     rintro _ F9 w148 _ hs149 le150 ⟨ar145_0_0, nr145_0_0, rfl, rfl, hbr145_0_0, hsr145_0_0⟩
     refine Vs 1 ?_
     refine Nt ?_
     refine Cd h147 (fun hb152 h153 => ?_) (fun hb152 h154 => ?_)
     ·refine Sq (Rg [0, 1] ?_)
      refine Vs 1 ?_
      obtain ⟨r155, hr156, h157⟩ := bind_some h153
      refine CP DD (D9 N bp0 r145.1 ar145_0_0 nr145_0_0 hbr145_0_0 hsr145_0_0 hs149 _ hr156) ?_ ?_
      ·rintro r158 _ F10 w160 _ rfl hs161 le162 ⟨ar158_0_0, nr158_0_0, rfl, rfl, hbr158_0_0, hsr158_0_0⟩
       have h164 := BM h157
       refine Nss (Rg [0, 1, 2, 3] ?_)
       refine Vs 1 ?_
       obtain ⟨r165, hr166, h167⟩ := bind_some h164
       refine CP BA (hsR145 (hG.mono (((le47.trans le122).trans le150).trans le162)) bp0 r158 ar158_0_0 nr158_0_0 hbr158_0_0 hsr158_0_0 hs161 _ hr166) ?_ ?_
       ·rintro r168 _ F11 w170 _ rfl hs171 le172 ⟨ar168_0_0, nr168_0_0, ar168_1_2, nr168_1_2, rfl, rfl, hbr168_0_0, hsr168_0_0, hbr168_1_2, hsr168_1_2⟩
        have h174 := BM h167
        refine Al' 33 #[(vi 0), (vi 0), (.slice none ([] : List Expr).length 0)] hs171 (fun b175 w176 hs177 => ?_)
        refine St0 (Ag r168.2 ar168_1_2 nr168_1_2) hs177 (fun w178 hs179 => ?_)
        refine Nss (Rg [0, 1] ?_)
        refine Vs 1 ?_
        obtain ⟨r180, hr181, h182⟩ := bind_some h174
        refine CP A5 (Ba N bp0 r168.1 ar168_0_0 nr168_0_0 hbr168_0_0 hsr168_0_0 (([44] : SF)) hs179.pk3.pk3.pk2.pk3 _ hr181) ?_ ?_
        ·rintro r183 _ F12 w185 _ rfl hs186 le187 ⟨ar183_0_0, nr183_0_0, rfl, rfl, hbr183_0_0, hsr183_0_0⟩
         have h189 := BM h182
         refine Nss (Rg [0, 1, 2, 3] ?_)
         refine Vs 1 ?_
         obtain ⟨r190, hr191, h192⟩ := bind_some h189
         refine CP BA (hsR145 (hG.mono (((((le47.trans le122).trans le150).trans le162).trans le172).trans le187)) bp0 r183 ar183_0_0 nr183_0_0 hbr183_0_0 hsr183_0_0 hs186 _ hr191) ?_ ?_
         ·rintro r193 _ F13 w195 _ rfl hs196 le197 ⟨ar193_0_0, nr193_0_0, ar193_1_2, nr193_1_2, rfl, rfl, hbr193_0_0, hsr193_0_0, hbr193_1_2, hsr193_1_2⟩
          have h199 := BM h192
          refine Al' 33 #[(vi 0), (vi 0), (.slice none ([] : List Expr).length 0)] hs196 (fun b200 w201 hs202 => ?_)
          refine St0 (Ag r193.2 ar193_1_2 nr193_1_2) hs202 (fun w203 hs204 => ?_)
          refine Nss (Rg [0, 1] ?_)
          refine Vs 1 ?_
          have hs205 := hs204.pk4.pk4.pk4.pk3.pk4
          obtain ⟨r206, hr207, h208⟩ := bind_some h199
          refine CP A5 (Ba N bp0 r193.1 ar193_0_0 nr193_0_0 hbr193_0_0 hsr193_0_0 (([44] : SF)) hs205 _ hr207) ?_ ?_
          ·rintro r209 _ F14 w211 _ rfl hs212 le213 ⟨ar209_0_0, nr209_0_0, rfl, rfl, hbr209_0_0, hsr209_0_0⟩
           have h215 := BM h208
           refine Nss (Rg [0, 1, 2, 3] ?_)
           refine Vs 1 ?_
           obtain ⟨r216, hr217, h218⟩ := bind_some h215
           refine CP BA (hsR145 (hG.mono (((((((le47.trans le122).trans le150).trans le162).trans le172).trans le187).trans le197).trans le213)) bp0 r209 ar209_0_0 nr209_0_0 hbr209_0_0 hsr209_0_0 hs212 _ hr217) ?_ ?_
           ·rintro r219 _ F15 w221 _ rfl hs222 le223 ⟨ar219_0_0, nr219_0_0, ar219_1_2, nr219_1_2, rfl, rfl, hbr219_0_0, hsr219_0_0, hbr219_1_2, hsr219_1_2⟩
            have h225 := BM h218
            refine Al' 33 #[(vi 0), (vi 0), (.slice none ([] : List Expr).length 0)] hs222 (fun b226 w227 hs228 => ?_)
            refine St0 (Ag r219.2 ar219_1_2 nr219_1_2) hs228 (fun w229 hs230 => ?_)
            refine Nss (Rg [0, 1] ?_)
            refine Vs 1 ?_
            have hs231 := hs230.pk5.pk5.pk5.pk5.pk4
            obtain ⟨r232, hr233, h234⟩ := bind_some h225
            refine CP DC (D8 N bp0 r219.1 ar219_0_0 nr219_0_0 hbr219_0_0 hsr219_0_0 hs231.pk5 _ hr233) ?_ ?_
            ·rintro r235 _ F16 w237 _ rfl hs238 le239 ⟨ar235_0_0, nr235_0_0, rfl, rfl, hbr235_0_0, hsr235_0_0⟩
             have h241 := BM h234
             refine Nss (Rg [0, 1, 2, 3, 4, 5] ?_)
             refine Ld hs238.at3 ?_
             refine Ld hs238.at2 ?_
             refine Ld hs238.at1 ?_
             refine Bs 33 [(vi r168.2.Op), (vi r168.2.Value), (.slice ar168_1_2 r168.2.Kids.length nr168_1_2), (vi r193.2.Op), (vi r193.2.Value), (.slice ar193_1_2 r193.2.Kids.length nr193_1_2), (vi r219.2.Op), (vi r219.2.Value), (.slice ar219_1_2 r219.2.Kids.length nr219_1_2)] hs238 (fun b242 w243 hs244 => ?_)
             have hr246 : Aw Ao 33 F16 (some ⟨b242, 0, none⟩) 3 [r168.2, r193.2, r219.2] (some b242, .cells ([(vi r168.2.Op), (vi r168.2.Value), (.slice ar168_1_2 r168.2.Kids.length nr168_1_2), (vi r193.2.Op), (vi r193.2.Value), (.slice ar193_1_2 r193.2.Kids.length nr193_1_2), (vi r219.2.Op), (vi r219.2.Value), (.slice ar219_1_2 r219.2.Kids.length nr219_1_2)] : List Value).toArray 33 (0, 0)) := SC ⟨(Bb ⟨ar168_1_2, nr168_1_2, rfl, hbr168_1_2, (Sk hsr168_1_2 ((((le187.trans le197).trans le213).trans le223).trans le239))⟩), ⟨(Bb ⟨ar193_1_2, nr193_1_2, rfl, hbr193_1_2, (Sk hsr193_1_2 ((le213.trans le223).trans le239))⟩), ⟨(Bb ⟨ar219_1_2, nr219_1_2, rfl, hbr219_1_2, (Sk hsr219_1_2 le239)⟩), rfl⟩⟩⟩ (by simp)
             refine Vs 1 ?_
             refine St6 #[(vi 11), (vi 0), (.slice (some ⟨b242, 0, none⟩) [r168.2, r193.2, r219.2].length 3)] hs244 (fun w247 hs248 => ?_)
             refine Nt ?_
             refine Rt ?_
             refine Ai ?_
             refine Ae ?_
             have hb252 := SB hr246
             obtain ⟨F17, hs249, le250, hs251⟩ := hs248.fr0 hr246
             have hs253 := hs249.dr1.dr1.dr1.dr1.dr1
             obtain rfl := Aa h241
             exact ⟨rfl, (.agg #[(vi 11), (vi 0), (.slice (some ⟨b242, 0, none⟩) [r168.2, r193.2, r219.2].length 3)]), AC (l := [.cell 2 33]) (by kernel_rfl) (vs := [(.agg #[(vi 11), (vi 0), (.slice (some ⟨b242, 0, none⟩) [r168.2, r193.2, r219.2].length 3)])]) ⟨b21, 0, rfl, Aj (t := 33) (g := true) (s := 3) (by kernel_rfl) hs249.at5 rfl (by decide), trivial⟩, .inl ⟨_, F17, _, _, rfl, rfl, hs253, ((((((((((le47.trans le122).trans le150).trans le162).trans le172).trans le187).trans le197).trans le213).trans le223).trans le239).trans le250), ⟨ar235_0_0, nr235_0_0, (some ⟨b242, 0, none⟩), 3, rfl, rfl, hbr235_0_0, (Sk hsr235_0_0 le250), hb252, hs251⟩⟩⟩
            ·rintro b254 F18 w255 rfl hs256 le257
             have h258 := Bj h234
             refine Am ?_
             refine AR ?_
             refine Am ?_
             have hs260 := hs256.dr0.dr0.dr0.dr0.dr0
             obtain rfl := Aa h258
             exact Cj hs260 (((((((((le47.trans le122).trans le150).trans le162).trans le172).trans le187).trans le197).trans le213).trans le223).trans le257)
           ·rintro b261 F19 w262 rfl hs263 le264
            have h265 := Bj h218
            refine Am ?_
            refine AR ?_
            refine Am ?_
            obtain rfl := Aa h265
            exact Cj hs263.dr0.dr0.dr0.dr0 ((((((((le47.trans le122).trans le150).trans le162).trans le172).trans le187).trans le197).trans le213).trans le264)
          ·rintro b267 F20 w268 rfl hs269 le270
           have h271 := Bj h208
           refine Am ?_
           refine AR ?_
           refine Am ?_
           obtain rfl := Aa h271
           exact Cj hs269.dr0.dr0.dr0.dr0 (((((((le47.trans le122).trans le150).trans le162).trans le172).trans le187).trans le197).trans le270)
         ·rintro b273 F21 w274 rfl hs275 le276
          have h277 := Bj h192
          refine Am ?_
          refine AR ?_
          refine Am ?_
          obtain rfl := Aa h277
          exact Cj hs275.dr0.dr0.dr0 ((((((le47.trans le122).trans le150).trans le162).trans le172).trans le187).trans le276)
        ·rintro b279 F22 w280 rfl hs281 le282
         have h283 := Bj h182
         refine Am ?_
         refine AR ?_
         refine Am ?_
         obtain rfl := Aa h283
         exact Cj hs281.dr0.dr0.dr0 (((((le47.trans le122).trans le150).trans le162).trans le172).trans le282)
       ·rintro b285 F23 w286 rfl hs287 le288
        have h289 := Bj h167
        refine Am ?_
        refine AR ?_
        refine Am ?_
        obtain rfl := Aa h289
        exact Cj hs287.dr0.dr0 ((((le47.trans le122).trans le150).trans le162).trans le288)
      ·rintro b291 F24 w292 rfl hs293 le294
       have h295 := Bj h157
       refine Am ?_
       refine AR ?_
       refine Am ?_
       obtain rfl := Aa h295
       exact Cj hs293.dr0.dr0 (((le47.trans le122).trans le150).trans le294)
     ·refine Sq (Rg [0, 1, 2] ?_)
      refine Vs 1 ?_
      obtain ⟨r297, hr298, h299⟩ := bind_some h154
      refine CB B4 (B9 N bp0 r145.1 ar145_0_0 nr145_0_0 hbr145_0_0 hsr145_0_0 (([40] : SF)) hs149 _ hr298) ?_
      rintro _ F25 w300 _ hs301 le302 ⟨rfl, rfl⟩
      refine Vs 1 ?_
      refine Nt ?_
      refine Cd h299 (fun hb304 h305 => ?_) (fun hb304 h306 => ?_)
      ·refine Sq (Rg [0, 1] ?_)
       refine Vs 1 ?_
       obtain ⟨r307, hr308, h309⟩ := bind_some h305
       refine CP DD (D9 N bp0 r145.1 ar145_0_0 nr145_0_0 hbr145_0_0 (Sk hsr145_0_0 le302) hs301 _ hr308) ?_ ?_
       ·rintro r310 _ F26 w312 _ rfl hs313 le314 ⟨ar310_0_0, nr310_0_0, rfl, rfl, hbr310_0_0, hsr310_0_0⟩
        have h316 := BM h309
        refine Nss (Rg [0, 1, 2, 3] ?_)
        refine Vs 1 ?_
        obtain ⟨r317, hr318, h319⟩ := bind_some h316
        refine CP BA (hsR145 (hG.mono ((((le47.trans le122).trans le150).trans le302).trans le314)) bp0 r310 ar310_0_0 nr310_0_0 hbr310_0_0 hsr310_0_0 hs313 _ hr318) ?_ ?_
        ·rintro r320 _ F27 w322 _ rfl hs323 le324 ⟨ar320_0_0, nr320_0_0, ar320_1_2, nr320_1_2, rfl, rfl, hbr320_0_0, hsr320_0_0, hbr320_1_2, hsr320_1_2⟩
         have h326 := BM h319
         refine Al' 33 #[(vi 0), (vi 0), (.slice none ([] : List Expr).length 0)] hs323 (fun b327 w328 hs329 => ?_)
         refine St0 (Ag r320.2 ar320_1_2 nr320_1_2) hs329 (fun w330 hs331 => ?_)
         refine Nss (Rg [0, 1] ?_)
         refine Vs 1 ?_
         obtain ⟨r332, hr333, h334⟩ := bind_some h326
         refine CP DC (D8 N bp0 r320.1 ar320_0_0 nr320_0_0 hbr320_0_0 hsr320_0_0 hs331.pk3.pk3.pk2.pk3 _ hr333) ?_ ?_
         ·rintro r335 _ F28 w337 _ rfl hs338 le339 ⟨ar335_0_0, nr335_0_0, rfl, rfl, hbr335_0_0, hsr335_0_0⟩
          have h341 := BM h334
          refine Nss (Rg [0, 1] ?_)
          refine Ld hs338.at1 ?_
          refine St3 (Ag r320.2 ar320_1_2 nr320_1_2) hs338 (fun w342 hs343 => ?_)
          refine Nt ?_
          refine Rt ?_
          refine Ai ?_
          refine Ae ?_
          obtain rfl := Aa h341
          exact ⟨rfl, (.agg (Ag r320.2 ar320_1_2 nr320_1_2)), AC (l := [.cell 2 33]) (by kernel_rfl) (vs := [(.agg (Ag r320.2 ar320_1_2 nr320_1_2))]) ⟨b21, 0, rfl, Aj (t := 33) (g := true) (s := 3) (by kernel_rfl) hs343.at3 rfl (by decide), trivial⟩, .inl ⟨_, F28, _, _, rfl, rfl, hs343.dr1.dr1.dr1, ((((((le47.trans le122).trans le150).trans le302).trans le314).trans le324).trans le339), ⟨ar335_0_0, nr335_0_0, ar320_1_2, nr320_1_2, rfl, rfl, hbr335_0_0, hsr335_0_0, hbr320_1_2, (Sk hsr320_1_2 le339)⟩⟩⟩
         ·rintro b344 F29 w345 rfl hs346 le347
          have h348 := Bj h334
          refine Am ?_
          refine AR ?_
          refine Am ?_
          obtain rfl := Aa h348
          exact Cj hs346.dr0.dr0.dr0 ((((((le47.trans le122).trans le150).trans le302).trans le314).trans le324).trans le347)
        ·rintro b350 F30 w351 rfl hs352 le353
         have h354 := Bj h319
         refine Am ?_
         refine AR ?_
         refine Am ?_
         obtain rfl := Aa h354
         exact Cj hs352.dr0.dr0 (((((le47.trans le122).trans le150).trans le302).trans le314).trans le353)
       ·rintro b356 F31 w357 rfl hs358 le359
        have h360 := Bj h309
        refine Am ?_
        refine AR ?_
        refine Am ?_
        obtain rfl := Aa h360
        exact Cj hs358.dr0.dr0 ((((le47.trans le122).trans le150).trans le302).trans le359)
      ·refine Sc ?_
       refine Aq ?_
       refine Ac ?_
       refine Sq (Rg [0, 1, 2, 3] ?_)
       refine Vs 2 ?_
       refine Ld hs301.at1 ?_
       obtain ⟨r362, hr363, h364⟩ := bind_some h306
       refine CP AP (AW N bp0 r145.1 ar145_0_0 nr145_0_0 hbr145_0_0 (Sk hsr145_0_0 le302) 60 x24.at_ hs301 _ hr363) ?_ ?_
       ·rintro _ _ _ _ _ rfl _ _ _; cases hr363
       ·rintro b367 F33 w368 rfl hs369 le370
        have h371 := Bj h364
        refine Am ?_
        obtain rfl := Aa h371
        exact Cj hs369.dr0.dr0 ((((le47.trans le122).trans le150).trans le302).trans le370)
structure Ri where
 q145 : Ab -> Option (Ah ⊕ (Ab × Expr))
 q185 : Ab -> Option (Ah ⊕ (Ab × Expr))
 q212 : Ab -> Option (Ah ⊕ (Ab × Expr))
 q226 : Ab -> Option (Ah ⊕ (Ab × Expr))
 q233 : Ab -> Option (Ah ⊕ (Ab × Expr))
 q239 : Ab -> Option (Ah ⊕ (Ab × Expr))
 q243 : Ab -> Option (Ah ⊕ (Ab × Expr))
def BN (N : Nat) : Nat -> Ri
 | 0 => ⟨fun _ => none, fun _ => none, fun _ => none, fun _ => none, fun _ => none, fun _ => none, fun _ => none⟩
 | k + 1 => ⟨El N (BN N k).q185, En N (BN N k).q212, Em N (BN N k).q212 (BN N k).q226, Ei N (BN N k).q233, EK N (BN N k).q239, Ej N (BN N k).q243, Ek N (BN N k).q145⟩
theorem LW (N : Nat) : ∀ k, ML (BN N k).q145 /\ MG (BN N k).q185 /\ Kj (BN N k).q212 /\ ME (BN N k).q226 /\ MD (BN N k).q233 /\ MC (BN N k).q239 /\ MB (BN N k).q243
 | 0 => ⟨(by unfold ML; intros; rename_i h; cases h), (by unfold MG; intros; rename_i h; cases h), (by unfold Kj; intros; rename_i h; cases h), (by unfold ME; intros; rename_i h; cases h), (by unfold MD; intros; rename_i h; cases h), (by unfold MC; intros; rename_i h; cases h), (by unfold MB; intros; rename_i h; cases h)⟩
 | k + 1 => by
  have ih := LW N k
  exact ⟨@Hc N (BN N k).q185 ih.2.1, @He N (BN N k).q212 ih.2.2.1, @Hd N (BN N k).q212 ih.2.2.1 (BN N k).q226 ih.2.2.2.1, @G9 N (BN N k).q233 ih.2.2.2.2.1, @HB N (BN N k).q239 ih.2.2.2.2.2.1, @Ha N (BN N k).q243 ih.2.2.2.2.2.2, @Hb N (BN N k).q145 ih.1⟩
def E5 (N : Nat) (x0 : Ab) : Option (Ah ⊕ (Ab × Expr)) := (BN N N).q145 x0
theorem Hx (N : Nat) {wb w0 : World} {Fb F0 : Mem} {Lf : Own} (hG : B0 F0) (bp0 : Nat) (x0 : Ab) (a0_0 : SG) (n0_0 : Nat) (hb0_0 : LC x0.l_.length n0_0) (hs0_0 : SlA Af F0 a0_0 x0.l_) (hs0 : HS wb Fb w0 F0 ((some bp0, (.cells #[(.slice a0_0 x0.l_.length n0_0), (.int .i64 x0.open_)] 100 (0, 0))) :: Lf)) (r : (Ah ⊕ (Ab × Expr))) (h : E5 N x0 = some r) :
  Calls Tryz.prog 145 ([(.pointer (some ⟨bp0, 0, none⟩))] : List Value).toArray w0 (BB wb Fb F0 Lf r (fun b => (.iface 158 (.agg #[(.int .i64 b.e_), (.int .i64 b.at_)]))) fun a F' v L' => ∃ (aq0_0 : SG) (nq0_0 : Nat) (aq1_2 : SG) (nq1_2 : Nat), v = (.agg #[(.int .i64 a.2.Op), (.int .i64 a.2.Value), (.slice aq1_2 a.2.Kids.length nq1_2)]) /\ L' = (some bp0, (.cells #[(.slice aq0_0 a.1.l_.length nq0_0), (.int .i64 a.1.open_)] 100 (0, 0))) :: Lf /\ LC a.1.l_.length nq0_0 /\ SlA Af F' aq0_0 a.1.l_ /\ LC a.2.Kids.length nq1_2 /\ SlA Ao F' aq1_2 a.2.Kids) := (LW N N).1 hG bp0 x0 a0_0 n0_0 hb0_0 hs0_0 hs0 r h
def BI (N : Nat) (x0 : Ab) : Option (Ah ⊕ (Ab × Bl)) :=
 ((idx x0.l_ 0).bind fun x24 => ((E5 N x0).bind fun r38 => sk r38 (fun b50 => some (.inl b50)) (fun r41 => some (.inr (r41.1, ({ Expr := r41.2, at_ := x24.at_ } : Bl))))))
theorem BR : Al Tryz.prog 86 := fun _ _ => by kernel_rfl
theorem BX (N : Nat) {wb w0 : World} {Fb F0 : Mem} {Lf : Own} (hG : B0 F0) (bp0 : Nat) (x0 : Ab) (a0_0 : SG) (n0_0 : Nat) (hb0_0 : LC x0.l_.length n0_0) (hs0_0 : SlA Af F0 a0_0 x0.l_) (hs0 : HS wb Fb w0 F0 ((sb bp0 (Ad x0 a0_0 n0_0) 100) :: Lf)) (r : (Ah ⊕ (Ab × Bl))) (h : BI N x0 = some r) :
  Calls Tryz.prog 86 ([(pt bp0 0)] : List Value).toArray w0 (BB wb Fb F0 Lf r (fun b => (.iface 158 (.agg (AL b)))) fun a F' v L' => ∃ (aq0_0 : SG) (nq0_0 : Nat) (aq1_2 : SG) (nq1_2 : Nat), v = (.agg (Ay a.2 aq1_2 nq1_2)) /\ L' = (sb bp0 (Ad a.1 aq0_0 nq0_0) 100) :: Lf /\ LC a.1.l_.length nq0_0 /\ SlA Af F' aq0_0 a.1.l_ /\ LC a.2.Expr.Kids.length nq1_2 /\ SlA Ao F' aq1_2 a.2.Expr.Kids) := by
 refine Go 15 Tryz.func86 ?_
 refine Sq (Rg [0] ?_)
 refine Al' 113 #[(vi 0), (vi 0), (.slice none ([] : List Expr).length 0), (vi 0)] hs0 (fun b21 w22 hs23 => ?_)
 refine Nss (Rg [0, 1, 2, 3, 4, 5, 6, 7] ?_)
 refine Vs 3 ?_
 refine Ld hs23.at1 ?_
 obtain ⟨x24, hx25, h27⟩ := bind_some h
 obtain ⟨hi26, hx25'⟩ := Ap hx25
 obtain ⟨b28, o29, C30, E31, fz32, rfl, hF34, hE35⟩ := Su hs0_0 hx25'
 have hc37 := hE35 _ _ hx25'
 refine Ix hi26 ?_
 refine Vs 1 ?_
 refine Lx 1 (hs23.pers _ _ hF34) hc37 ?_
 refine Vs 1 ?_
 refine Nss (Rg [0, 1, 2, 3, 4] ?_)
 refine Vs 1 ?_
 obtain ⟨r38, hr39, h40⟩ := bind_some h27
 refine CP BA (Hx N hG bp0 x0 (some ⟨b28, o29, none⟩) n0_0 hb0_0 hs0_0 hs23.pk1 _ hr39) ?_ ?_
 ·rintro r41 _ F1 w43 _ rfl hs44 le45 ⟨ar41_0_0, nr41_0_0, ar41_1_2, nr41_1_2, rfl, rfl, hbr41_0_0, hsr41_0_0, hbr41_1_2, hsr41_1_2⟩
  have h47 := BM h40
  refine Vs 2 ?_
  refine St1 #[(vi r41.2.Op), (vi r41.2.Value), (.slice ar41_1_2 r41.2.Kids.length nr41_1_2), (vi x24.at_)] hs44 (fun w48 hs49 => ?_)
  refine Nt ?_
  refine Rt ?_
  obtain rfl := Aa h47
  exact ⟨rfl, (.agg #[(vi r41.2.Op), (vi r41.2.Value), (.slice ar41_1_2 r41.2.Kids.length nr41_1_2), (vi x24.at_)]), AC (l := [.cell 2 113]) (by kernel_rfl) (vs := [(.agg #[(vi r41.2.Op), (vi r41.2.Value), (.slice ar41_1_2 r41.2.Kids.length nr41_1_2), (vi x24.at_)])]) ⟨b21, 0, rfl, Aj (t := 113) (g := true) (s := 4) (by kernel_rfl) hs49.at1 rfl (by decide), trivial⟩, .inl ⟨_, F1, _, _, rfl, rfl, hs49.dr1, le45, ⟨ar41_0_0, nr41_0_0, ar41_1_2, nr41_1_2, rfl, rfl, hbr41_0_0, hsr41_0_0, hbr41_1_2, hsr41_1_2⟩⟩⟩
 ·rintro b50 F2 w51 rfl hs52 le53
  have h54 := Bj h40
  refine Am ?_
  obtain rfl := Aa h54
  exact Cj hs52.dr0 le53
def BU (N : Nat) (x0 : Ab) (x1 : Bl) (x2 : Int) : Option (Ah ⊕ Unit) :=
 ((Dg N x1.Expr).bind fun r24 => ((E9 N x1.Expr).bind fun r32 => (bif (decide (r32 > 32)) then ((AZ N x0 2 x1.at_).bind fun r43 => sk r43 (fun b48 => some (.inl b48)) (fun r46 => none)) else (bif ((r24 == 0) || ((x2 != 0) && (r24 != x2))) then ((AZ N x0 61 x1.at_).bind fun r66 => sk r66 (fun b71 => some (.inl b71)) (fun r69 => none)) else some (.inr ())))))
theorem BW : Al Tryz.prog 88 := fun _ _ => by kernel_rfl
theorem B5 (N : Nat) {wb w0 : World} {Fb F0 : Mem} {Lf : Own} (bp0 : Nat) (x0 : Ab) (a0_0 : SG) (n0_0 : Nat) (hb0_0 : LC x0.l_.length n0_0) (hs0_0 : SlA Af F0 a0_0 x0.l_) (x1 : Bl) (a1_2 : SG) (n1_2 : Nat) (hb1_2 : LC x1.Expr.Kids.length n1_2) (hs1_2 : SlA Ao F0 a1_2 x1.Expr.Kids) (x2 : Int) (hs0 : HS wb Fb w0 F0 ((sb bp0 (Ad x0 a0_0 n0_0) 100) :: Lf)) (r : (Ah ⊕ Unit)) (h : BU N x0 x1 x2 = some r) :
  Calls Tryz.prog 88 ([(pt bp0 0), (.agg (Ay x1 a1_2 n1_2)), (vi x2)] : List Value).toArray w0 (BB wb Fb F0 Lf r (fun b => (.iface 158 (.agg (AL b)))) fun a F' v L' => v = (.tuple #[]) /\ L' = (sb bp0 (Ad x0 a0_0 n0_0) 100) :: Lf) := by
 refine Go 35 Tryz.func88 ?_
 refine Sq (Rg [0] ?_)
 refine Bx' 113 (Ay x1 a1_2 n1_2) hs0 (fun b21 w22 hs23 => ?_)
 refine Nss (Rg [0, 1, 2, 3] ?_)
 refine Vs 1 ?_
 refine Ld hs23.at0 ?_
 obtain ⟨r24, hr25, h26⟩ := bind_some h
 refine Cl' C5 hs23 (EV N w22 F0 hs23.pers x1.Expr a1_2 n1_2 hb1_2 hs1_2 _ hr25) ?_
 rintro _ F1 w28 hs29 le30 rfl
 refine Vs 1 ?_
 refine Nt ?_
 refine Bk ?_
 refine Sq (Rg [0, 1, 2, 3, 4] ?_)
 refine Vs 1 ?_
 refine Ld hs29.at0 ?_
 obtain ⟨r32, hr33, h34⟩ := bind_some h26
 refine Cl' EP hs29 (HP N w28 F1 hs29.pers x1.Expr a1_2 n1_2 hb1_2 (Sk hs1_2 le30) _ hr33) ?_
 rintro _ F2 w36 hs37 le38 rfl
 refine Vs 2 ?_
 refine Nt ?_
 refine Cd h34 (fun hb40 h41 => ?_) (fun hb40 h42 => ?_)
 ·refine Rg [0, 1, 2, 3] ?_
  refine Vs 2 ?_
  refine Ld hs37.at0 ?_
  obtain ⟨r43, hr44, h45⟩ := bind_some h41
  refine CP AP (AW N bp0 x0 a0_0 n0_0 hb0_0 (Sk hs0_0 (le30.trans le38)) 2 x1.at_ hs37.pk1 _ hr44) ?_ ?_
  ·rintro _ _ _ _ _ rfl _ _ _; cases hr44
  ·rintro b48 F4 w49 rfl hs50 le51
   have h52 := Bj h45
   refine AR ?_
   obtain rfl := Aa h52
   exact Cj hs50.dr0 ((le30.trans le38).trans le51)
 ·refine Sq (Rg [0, 1, 2, 3, 4, 5, 6, 7, 8, 9, 10, 11] ?_)
  refine Sn (fun f w => ∃ (F5 : Mem), HS wb Fb w F5 ((sb b21 (Ay x1 a1_2 n1_2) 113) :: (sb bp0 (Ad x0 a0_0 n0_0) 100) :: Lf) /\ Sh F2 F5 /\ FI f [] [(0, (pt bp0 0)), (4, (pt b21 0)), (19, (.bool ((r24 == 0) || ((x2 != 0) && (r24 != x2)))))]) ?_ ?_
  ·refine Vs 3 ?_
   refine Sm (r24 == 0) (fun hb61 => ?_) (fun hb61 => ?_)
   ·refine Ss hb61 3 ?_
    refine Su' 3 ?_
    refine Ss hb61 1 ?_
    refine Pk1 hb61 ?_
    refine Vs 1 ?_
    exact Sd ⟨rfl, F2, hs37, (Si _), (fJ ⟨rfl, rfl, (congrArg Value.bool (FL hb61 rfl)), trivial⟩)⟩
   ·refine Vgs hb61 3 ?_
    refine Sm (x2 != 0) (fun hb62 => ?_) (fun hb62 => ?_)
    ·refine Vgs hb62 3 ?_
     refine Pg1 hb61 hb62 ?_
     refine Pk0 hb61 ?_
     refine Vs 1 ?_
     exact Sd ⟨rfl, F2, hs37, (Si _), (fJ ⟨rfl, rfl, (congrArg Value.bool (BQ hb61 (BL hb62 rfl))), trivial⟩)⟩
    ·refine Ss hb62 3 ?_
     refine Pg0 hb61 hb62 ?_
     refine Pk0 hb61 ?_
     refine Vs 1 ?_
     exact Sd ⟨rfl, F2, hs37, (Si _), (fJ ⟨rfl, rfl, (congrArg Value.bool (BQ hb61 (Dz hb62 rfl))), trivial⟩)⟩
  ·rintro f w54 ⟨F5, hs55, le56, ⟨_, rfl⟩⟩
   refine Ac ?_
   refine Cd h42 (fun hb63 h64 => ?_) (fun hb63 h65 => ?_)
   ·refine Rg [0, 1, 2, 3] ?_
    refine Vs 2 ?_
    refine Ld hs55.at0 ?_
    obtain ⟨r66, hr67, h68⟩ := bind_some h64
    refine CP AP (AW N bp0 x0 a0_0 n0_0 hb0_0 (Sk hs0_0 ((le30.trans le38).trans le56)) 61 x1.at_ hs55.pk1 _ hr67) ?_ ?_
    ·rintro _ _ _ _ _ rfl _ _ _; cases hr67
    ·rintro b71 F7 w72 rfl hs73 le74
     have h75 := Bj h68
     refine AR ?_
     obtain rfl := Aa h75
     exact Cj hs73.dr0 (((le30.trans le38).trans le56).trans le74)
   ·refine Sc ?_
    refine Aq ?_
    obtain rfl := Aa h65
    exact ReP [] hs55.dr0 ((le30.trans le38).trans le56) ⟨rfl, rfl⟩
def E8 (N : Nat) (x0 : Ab) (z0 : Bl) : Option (Ah ⊕ (Ab × Bl)) :=
 ((BI N x0).bind fun r21 => sk r21 (fun b83 => some (.inl b83)) (fun r24 => ((idx r24.1.l_ 0).bind fun x33 => (bif (x33.kind_ != 0) then ((idx r24.1.l_ 0).bind fun x50 => ((AZ N r24.1 60 x50.at_).bind fun r56 => sk r56 (fun b61 => some (.inl b61)) (fun r59 => none))) else ((BU N r24.1 r24.2 0).bind fun r67 => sk r67 (fun b77 => some (.inl b77)) (fun r70 => some (.inr (r24.1, r24.2))))))))
theorem GY : Al Tryz.prog 85 := fun _ _ => by kernel_rfl
theorem Hy (N : Nat) {wb w0 : World} {Fb F0 : Mem} {Lf : Own} (hG : B0 F0) (bp0 : Nat) (x0 : Ab) (a0_0 : SG) (n0_0 : Nat) (hb0_0 : LC x0.l_.length n0_0) (hs0_0 : SlA Af F0 a0_0 x0.l_) (bz0 : Nat) (z0 : Bl) (az0_2 : SG) (nz0_2 : Nat) (hbz0_2 : LC z0.Expr.Kids.length nz0_2) (hsz0_2 : SlA Ao F0 az0_2 z0.Expr.Kids) (hs0 : HS wb Fb w0 F0 ((sb bp0 (Ad x0 a0_0 n0_0) 100) :: (sb bz0 (Ay z0 az0_2 nz0_2) 113) :: Lf)) (r : (Ah ⊕ (Ab × Bl))) (h : E8 N x0 z0 = some r) :
  Calls Tryz.prog 85 ([(pt bp0 0), (pt bz0 0)] : List Value).toArray w0 (BB wb Fb F0 Lf r (fun b => (.iface 158 (.agg (AL b)))) fun a F' v L' => ∃ (aq0_0 : SG) (nq0_0 : Nat) (aq1_2 : SG) (nq1_2 : Nat), v = (.tuple #[]) /\ L' = (sb bp0 (Ad a.1 aq0_0 nq0_0) 100) :: (sb bz0 (Ay a.2 aq1_2 nq1_2) 113) :: Lf /\ LC a.1.l_.length nq0_0 /\ SlA Af F' aq0_0 a.1.l_ /\ LC a.2.Expr.Kids.length nq1_2 /\ SlA Ao F' aq1_2 a.2.Expr.Kids) := by
 refine Go 25 Tryz.func85 ?_
 refine Sq (Rg [0, 1, 2] ?_)
 refine Vs 1 ?_
 obtain ⟨r21, hr22, h23⟩ := bind_some h
 refine CP BR (BX N hG bp0 x0 a0_0 n0_0 hb0_0 hs0_0 hs0 _ hr22) ?_ ?_
 ·rintro r24 _ F1 w26 _ rfl hs27 le28 ⟨ar24_0_0, nr24_0_0, ar24_1_2, nr24_1_2, rfl, rfl, hbr24_0_0, hsr24_0_0, hbr24_1_2, hsr24_1_2⟩
  have h30 := BM h23
  refine St1 (Ay r24.2 ar24_1_2 nr24_1_2) hs27 (fun w31 hs32 => ?_)
  refine Nss ?_
  refine Sq (Rg [0, 1, 2, 3, 4, 5, 6, 7] ?_)
  refine Vs 3 ?_
  refine Ld hs32.at0 ?_
  obtain ⟨x33, hx34, h36⟩ := bind_some h30
  obtain ⟨hi35, hx34'⟩ := Ap hx34
  obtain ⟨b37, o38, C39, E40, fz41, rfl, hF43, hE44⟩ := Su hsr24_0_0 hx34'
  have hc46 := hE44 _ _ hx34'
  refine Ix hi35 ?_
  refine Vs 1 ?_
  refine Lx 0 (hs32.pers _ _ hF43) hc46 ?_
  refine Vs 1 ?_
  refine Nt ?_
  refine Cd h36 (fun hb47 h48 => ?_) (fun hb47 h49 => ?_)
  ·refine Rg [0, 1, 2, 3, 4, 5, 6, 7, 8] ?_
   refine Vs 4 ?_
   refine Ld hs32.at0 ?_
   obtain ⟨x50, hx51, h53⟩ := bind_some h48
   obtain ⟨hi52, hx51'⟩ := Ap hx51
   have hc55 := hE44 _ _ hx51'
   refine Ix hi52 ?_
   refine Vs 1 ?_
   refine Lx 1 (hs32.pers _ _ hF43) hc55 ?_
   obtain ⟨r56, hr57, h58⟩ := bind_some h53
   refine CP AP (AW N bp0 r24.1 (some ⟨b37, o38, none⟩) nr24_0_0 hbr24_0_0 hsr24_0_0 60 x50.at_ hs32 _ hr57) ?_ ?_
   ·rintro _ _ _ _ _ rfl _ _ _; cases hr57
   ·rintro b61 F3 w62 rfl hs63 le64
    have h65 := Bj h58
    refine Am ?_
    obtain rfl := Aa h65
    exact Cj hs63.dr0 (le28.trans le64)
  ·refine Sc ?_
   refine Ac ?_
   refine Rg [0, 1, 2] ?_
   refine Vs 1 ?_
   refine Ld hs32.at1 ?_
   obtain ⟨r67, hr68, h69⟩ := bind_some h49
   refine CP BW (B5 N bp0 r24.1 (some ⟨b37, o38, none⟩) nr24_0_0 hbr24_0_0 hsr24_0_0 r24.2 ar24_1_2 nr24_1_2 hbr24_1_2 hsr24_1_2 0 hs32 _ hr68) ?_ ?_
   ·rintro r70 _ F4 w72 _ rfl hs73 le74 ⟨rfl, rfl⟩
    have h76 := BM h69
    refine Sd ?_
    obtain rfl := Aa h76
    exact ReP [] hs73 (le28.trans le74) ⟨(some ⟨b37, o38, none⟩), nr24_0_0, ar24_1_2, nr24_1_2, rfl, rfl, hbr24_0_0, (Sk hsr24_0_0 le74), hbr24_1_2, (Sk hsr24_1_2 le74)⟩
   ·rintro b77 F5 w78 rfl hs79 le80
    have h81 := Bj h69
    obtain rfl := Aa h81
    exact Cj hs79.dr0 (le28.trans le80)
 ·rintro b83 F6 w84 rfl hs85 le86
  have h87 := Bj h23
  refine Am ?_
  obtain rfl := Aa h87
  exact Cj hs85.dr0 le86
def C8 (N : Nat) (x0 : Ab) : Option (Ah ⊕ Unit) :=
 (((idx x0.l_ 0).bind fun x30 => (bif (x30.kind_ != 0) then ((AY N x0 ([10] : SF)).bind fun r47 => some (!r47)) else some false)).bind fun j24 => (bif j24 then ((idx x0.l_ 0).bind fun x57 => ((AZ N x0 60 x57.at_).bind fun r71 => sk r71 (fun b76 => some (.inl b76)) (fun r74 => none))) else some (.inr ())))
theorem DE : Al Tryz.prog 136 := fun _ _ => by kernel_rfl
theorem Ea (N : Nat) {wb w0 : World} {Fb F0 : Mem} {Lf : Own} (bp0 : Nat) (x0 : Ab) (a0_0 : SG) (n0_0 : Nat) (hb0_0 : LC x0.l_.length n0_0) (hs0_0 : SlA Af F0 a0_0 x0.l_) (hs0 : HS wb Fb w0 F0 ((sb bp0 (Ad x0 a0_0 n0_0) 100) :: Lf)) (r : (Ah ⊕ Unit)) (h : C8 N x0 = some r) :
  Calls Tryz.prog 136 ([(pt bp0 0)] : List Value).toArray w0 (BB wb Fb F0 Lf r (fun b => (.iface 158 (.agg (AL b)))) fun a F' v L' => v = (.tuple #[]) /\ L' = (sb bp0 (Ad x0 a0_0 n0_0) 100) :: Lf) := by
 refine Go 24 Tryz.func136 ?_
 refine Sq (Rg [0, 1, 2, 3, 4, 5, 6, 7, 8, 9, 10, 11, 12] ?_)
 obtain ⟨j24, hj28, h29⟩ := bind_some h
 refine Sn (fun f w => ∃ (F1 : Mem), HS wb Fb w F1 ((sb bp0 (Ad x0 a0_0 n0_0) 100) :: Lf) /\ Sh F0 F1 /\ FI f [] [(0, (pt bp0 0)), (14, (.bool j24))]) ?_ ?_
 ·refine Vs 3 ?_
  refine Ld hs0.at0 ?_
  obtain ⟨x30, hx31, h33⟩ := bind_some hj28
  obtain ⟨hi32, hx31'⟩ := Ap hx31
  obtain ⟨b34, o35, C36, E37, fz38, rfl, hF40, hE41⟩ := Su hs0_0 hx31'
  have hc43 := hE41 _ _ hx31'
  refine Ix hi32 ?_
  refine Vs 1 ?_
  refine Lx 0 (hs0.pers _ _ hF40) hc43 ?_
  refine Vs 2 ?_
  refine Sp h33 (fun hb44 h45 => ?_) (fun hb44 h46 => ?_)
  ·refine Vgs hb44 1 ?_
   obtain ⟨r47, hr48, h49⟩ := bind_some h45
   refine RWP.callB (dst := (some 12)) (ty := 4) (g := (some (8, true))) (by kernel_rfl) (N5 (d := 10) (by kernel_rfl) rfl hb44) (f0 := (.func 134)) (aos := #[(.tmp 11), (.const (.string ⟨([10] : SF).toArray⟩))]) (ats := #[95, 9]) (fid := 134) (first := #[]) (cap := #[]) (args := [(pt bp0 0), (.string ⟨(([10] : SF)).toArray⟩)]) rfl B4 rfl (B9 N bp0 x0 (some ⟨b34, o35, none⟩) n0_0 hb0_0 hs0_0 (([10] : SF)) hs0 _ hr48) ?_
   rintro _ F2 w50 _ hs51 le52 ⟨rfl, rfl⟩
   refine Vgs hb44 1 ?_
   refine Pk1 hb44 ?_
   obtain rfl := Aa h49
   exact Sd ⟨rfl, F2, hs51, le52, fI⟩
  ·refine Ss hb44 3 ?_
   refine Pk0 hb44 ?_
   obtain rfl := Aa h46
   exact Sd ⟨rfl, F0, hs0, (Si _), fI⟩
 ·rintro f w21 ⟨F1, hs22, le23, ⟨_, rfl⟩⟩
  refine Ac ?_
  refine Cd h29 (fun hb54 h55 => ?_) (fun hb54 h56 => ?_)
  ·refine Rg [0, 1, 2, 3, 4, 5, 6, 7, 8] ?_
   refine Vs 4 ?_
   refine Ld hs22.at0 ?_
   obtain ⟨x57, hx58, h60⟩ := bind_some h55
   obtain ⟨hi59, hx58'⟩ := Ap hx58
   obtain ⟨b61, o62, C63, E64, fz65, rfl, hF67, hE68⟩ := Su (Sk hs0_0 le23) hx58'
   have hc70 := hE68 _ _ hx58'
   refine Ix hi59 ?_
   refine Vs 1 ?_
   refine Lx 1 (hs22.pers _ _ hF67) hc70 ?_
   obtain ⟨r71, hr72, h73⟩ := bind_some h60
   refine CP AP (AW N bp0 x0 (some ⟨b61, o62, none⟩) n0_0 hb0_0 (Sk hs0_0 le23) 60 x57.at_ hs22 _ hr72) ?_ ?_
   ·rintro _ _ _ _ _ rfl _ _ _; cases hr72
   ·rintro b76 F4 w77 rfl hs78 le79
    have h80 := Bj h73
    obtain rfl := Aa h80
    exact Cj hs78 (le23.trans le79)
  ·refine Sc ?_
   obtain rfl := Aa h56
   exact ReP [] hs22 le23 ⟨rfl, rfl⟩
def Eh (N : Nat) (x0 : Ab) (x1 : (List Expr)) (x2 : Int) : Option (Ah ⊕ Unit) :=
 (bif ((x1.length : Int) == 64) then ((AZ N x0 2 x2).bind fun r24 => sk r24 (fun b29 => some (.inl b29)) (fun r27 => none)) else some (.inr ()))
theorem Ge : Al Tryz.prog 137 := fun _ _ => by kernel_rfl
theorem Gt (N : Nat) {wb w0 : World} {Fb F0 : Mem} {Lf : Own} (bp0 : Nat) (x0 : Ab) (a0_0 : SG) (n0_0 : Nat) (hb0_0 : LC x0.l_.length n0_0) (hs0_0 : SlA Af F0 a0_0 x0.l_) (x1 : (List Expr)) (a1_0 : SG) (n1_0 : Nat) (x2 : Int) (hs0 : HS wb Fb w0 F0 ((sb bp0 (Ad x0 a0_0 n0_0) 100) :: Lf)) (r : (Ah ⊕ Unit)) (h : Eh N x0 x1 x2 = some r) :
  Calls Tryz.prog 137 ([(pt bp0 0), (.slice a1_0 x1.length n1_0), (vi x2)] : List Value).toArray w0 (BB wb Fb F0 Lf r (fun b => (.iface 158 (.agg (AL b)))) fun a F' v L' => v = (.tuple #[]) /\ L' = (sb bp0 (Ad x0 a0_0 n0_0) 100) :: Lf) := by
 refine Go 12 Tryz.func137 ?_
 refine Sq (Rg [0, 1, 2] ?_)
 refine Vs 3 ?_
 refine Nt ?_
 refine Cd h (fun hb21 h22 => ?_) (fun hb21 h23 => ?_)
 ·refine Rg [0, 1, 2] ?_
  refine Vs 2 ?_
  obtain ⟨r24, hr25, h26⟩ := bind_some h22
  refine CP AP (AW N bp0 x0 a0_0 n0_0 hb0_0 hs0_0 2 x2 hs0 _ hr25) ?_ ?_
  ·rintro _ _ _ _ _ rfl _ _ _; cases hr25
  ·rintro b29 F2 w30 rfl hs31 le32
   have h33 := Bj h26
   obtain rfl := Aa h33
   exact Cj hs31 le32
 ·refine Sc ?_
  obtain rfl := Aa h23
  exact ReP [] hs0 (Si _) ⟨rfl, rfl⟩
def DB (N : Nat) (x0 : Ab) (x1 : (List Clause)) (x2 : Int) : Option (Ah ⊕ Unit) :=
 (bif ((x1.length : Int) == 64) then ((AZ N x0 2 x2).bind fun r24 => sk r24 (fun b29 => some (.inl b29)) (fun r27 => none)) else some (.inr ()))
theorem Fw : Al Tryz.prog 138 := fun _ _ => by kernel_rfl
theorem FS (N : Nat) {wb w0 : World} {Fb F0 : Mem} {Lf : Own} (bp0 : Nat) (x0 : Ab) (a0_0 : SG) (n0_0 : Nat) (hb0_0 : LC x0.l_.length n0_0) (hs0_0 : SlA Af F0 a0_0 x0.l_) (x1 : (List Clause)) (a1_0 : SG) (n1_0 : Nat) (x2 : Int) (hs0 : HS wb Fb w0 F0 ((sb bp0 (Ad x0 a0_0 n0_0) 100) :: Lf)) (r : (Ah ⊕ Unit)) (h : DB N x0 x1 x2 = some r) :
  Calls Tryz.prog 138 ([(pt bp0 0), (.slice a1_0 x1.length n1_0), (vi x2)] : List Value).toArray w0 (BB wb Fb F0 Lf r (fun b => (.iface 158 (.agg (AL b)))) fun a F' v L' => v = (.tuple #[]) /\ L' = (sb bp0 (Ad x0 a0_0 n0_0) 100) :: Lf) := by
 refine Go 12 Tryz.func138 ?_
 refine Sq (Rg [0, 1, 2] ?_)
 refine Vs 3 ?_
 refine Nt ?_
 refine Cd h (fun hb21 h22 => ?_) (fun hb21 h23 => ?_)
 ·refine Rg [0, 1, 2] ?_
  refine Vs 2 ?_
  obtain ⟨r24, hr25, h26⟩ := bind_some h22
  refine CP AP (AW N bp0 x0 a0_0 n0_0 hb0_0 hs0_0 2 x2 hs0 _ hr25) ?_ ?_
  ·rintro _ _ _ _ _ rfl _ _ _; cases hr25
  ·rintro b29 F2 w30 rfl hs31 le32
   have h33 := Bj h26
   obtain rfl := Aa h33
   exact Cj hs31 le32
 ·refine Sc ?_
  obtain rfl := Aa h23
  exact ReP [] hs0 (Si _) ⟨rfl, rfl⟩
def H8 (b : Nat) (S : SF -> Option Value) (e : Option Nat × Obj) : Prop :=
 ∃ es clk, e = (some b, .map es clk) /\ ∀ k : SF, ∃ r, Instr.findNow .string (.string ⟨k.toArray⟩) es.toList 0 = some r /\ r.map (·.2) = S k
def Et (S : SF -> Option Value) (k : SF) (v : Value) : SF -> Option Value := fun x => if x = k then some v else S x
theorem IQ {d : TypeDesc} {k : Value} {e : MapEntry} {b : Bool} (hs : Instr.sameNow d k e.key = some b) : ∀ (es : List MapEntry) (i : Nat) (r : Option (Nat × Value)), Instr.findNow d k es i = some r ->
  ∃ r', Instr.findNow d k (es ++ [e]) i = some r' /\ r'.map (·.2) = match r with | some p => some p.2 | none => if b then some e.val else none
 | [], i, r, h => by
  simp only [Instr.findNow, Option.some.injEq] at h; subst h
  cases b with
  | true => exact ⟨some (i, e.val), by simp [Instr.findNow, hs], rfl⟩
  | false => exact ⟨none, by simp [Instr.findNow, hs], rfl⟩
 | x :: es, i, r, h => by
  unfold Instr.findNow at h
  cases hx : Instr.sameNow d k x.key with
  | none => rw [hx] at h; cases h
  | some c =>
   rw [hx] at h
   cases c with
   | true => simp only [Option.some.injEq] at h; subst h; exact ⟨some (i, x.val), by simp [Instr.findNow, hx], rfl⟩
   | false =>
    simp only at h
    obtain ⟨r', h1, h2⟩ := IQ hs es (i + 1) r h
    exact ⟨r', by simp [Instr.findNow, hx, h1], h2⟩
theorem H8.ins {b clk : Nat} {S : SF -> Option Value} {es : Array MapEntry} (h : ∀ k : SF, ∃ r, Instr.findNow .string (.string ⟨k.toArray⟩) es.toList 0 = some r /\ r.map (·.2) = S k) (k0 : SF) (v : Value) (hn : S k0 = none) :
  H8 b (Et S k0 v) (some b, .map (es.push ⟨.string ⟨k0.toArray⟩, v, clk⟩) (clk + 1)) := by
 refine ⟨_, _, rfl, fun k => ?_⟩
 obtain ⟨r, h1, h2⟩ := h k
 have hs : Instr.sameNow .string (.string ⟨k.toArray⟩) (.string ⟨k0.toArray⟩) = some (decide (k = k0)) := by
  simp only [Instr.sameNow, Option.some.injEq]
  rw [beq_toListBytes, ByteArray.toList_eq, ByteArray.toList_eq, Bool.eq_iff_iff]; simp
 obtain ⟨r', h3, h4⟩ := IQ (e := ⟨.string ⟨k0.toArray⟩, v, clk⟩) hs es.toList 0 r h1
 refine ⟨r', by rw [Array.toList_push]; exact h3, ?_⟩
 rw [h4]
 unfold Et
 cases r with
 | some p =>
  simp only at h2 ⊢
  have hne : k ≠ k0 := fun e => by rw [e, hn] at h2; cases h2
  rw [if_neg hne, <- h2]; rfl
 | none =>
  simp only at h2 ⊢
  by_cases hk : k = k0
  ·simp [hk]
  ·simp only [hk, decide_false, Bool.false_eq_true, if_false]; rw [<- h2]; rfl
theorem H8.nil (b : Nat) : H8 b (fun _ => none) (some b, .map #[] 0) := ⟨_, _, rfl, fun _ => ⟨none, rfl, rfl⟩⟩
theorem H8.congr {b : Nat} {S S' : SF -> Option Value} {e : Option Nat × Obj} (h : H8 b S e) (hs : ∀ k, S k = S' k) : H8 b S' e := by
 obtain ⟨es, clk, h1, h2⟩ := h; exact ⟨es, clk, h1, fun k => by rw [<- hs k]; exact h2 k⟩
section
variable {P : Program} {w w0 : World} {F0 F : Mem} {L : Own} {ρ : Operand -> Value} {ty : TypeId}
theorem HS.ownAt' {k : Nat} {e : Option Nat × Obj} (h : HS w0 F0 w F L) (hk : L[k]? = some e) : ∀ b o, e = (some b, o) -> w.heap[b]? = some o := fun b o he => h.ownAt (by rw [hk, he])
theorem MY {mt k vt : TypeId} {m x : Operand} {b : Nat} {S : SF -> Option Value} {e : Option Nat × Obj} {t : SF} {v : Value} (hm : ρ m = .map (some b)) (hx : ρ x = .string ⟨t.toArray⟩) (hu : P.underlying mt = some (.map k vt)) (hk : P.underlying k = some .string)
  (hw : ∀ b o, e = (some b, o) -> w.heap[b]? = some o) (hp : H8 b S e) (hS : S t = some v) : (Ak ρ (.lookup mt m x true) ty).run P w = .ok (.value (.tuple #[v, .bool true])) w := by
 obtain ⟨es, clk, rfl, h2⟩ := hp
 have hb := hw b _ rfl
 obtain ⟨r, h3, h4⟩ := h2 t
 rw [hS] at h4
 cases r with
 | none => cases h4
 | some p =>
  obtain ⟨i, v'⟩ := p
  simp only [Option.map_some, Option.some.injEq] at h4
  subst h4
  have e : Ak ρ (.lookup mt m x true) ty = (do pure (Next.value (<- Instr.lookup mt (ρ m) (ρ x) true))) := rfl
  rw [e, hm, hx]
  simp [Instr.lookup, run_underlying hu, MapKept.run_getObj_map hb, MapKept.run_checkKey hk (k := .string ⟨t.toArray⟩) trivial, MapKept.run_findKey hk h3, Result.andThen]
end
section
variable {P : Program} {n : Nat} {R : Array Oper} {PQ : List PanicEntry -> List Deferred -> World -> Prop} {Post : Fr -> World -> Prop} {zz fuel : Nat} {ll l' : List Bool} {zd : Bool} {Fs : Mem} {Lc Lz : Own} {w w0 : World} {F0 F : Mem} {L : Own} {f : Fr} {i : Nat} {dst : Option Nat} {ty : TypeId} {g : Option (Nat × Bool)}
theorem AA.pMake {t : TypeId} (hl : ll.set i true = l') (hzd : l'.toArray.getD zz true = zd) (ho : opq R i = some (dst, .makeMap t none, ty, g)) (hg : gd R f g = true) (hs : HS w0 F0 w F L) (hle : Sh Fs F) (hL : ∀ p, p ∈ Lc -> p ∈ L) (hLz : zd = false -> ∀ p, p ∈ Lz -> p ∈ L)
  (kk : ∀ b e w', HS w0 F0 w' F (e :: L) -> H8 b (fun _ => none) e -> DWP P n R PQ Post zz (DZ Fs Lc Lz) fuel l' (A1 f dst (.map (some b))) w') : AA P n R PQ Post zz (DZ Fs Lc Lz) fuel ll i f w :=
 Sy hl hzd ho hg Gw (Bu (hs.alloc _) hle (fun p hp => List.mem_cons_of_mem _ (hL p hp)) (fun e p hp => List.mem_cons_of_mem _ (hLz e p hp))) (kk _ _ _ (hs.alloc _) (H8.nil _))
theorem AA.pIns {mt k vt : TypeId} {m x y : Operand} {b : Nat} {S : SF -> Option Value} {k0 : SF} {v : Value} {e : Option Nat × Obj} (hl : ll.set i true = l') (hzd : l'.toArray.getD zz true = zd) (ho : opq R i = some (none, .insert mt m x y, ty, g)) (hg : gd R f g = true)
  (hm : fev f m = .map (some b)) (hx : fev f x = .string ⟨k0.toArray⟩) (hy : fev f y = v) (hu : P.underlying mt = some (.map k vt)) (hk : P.underlying k = some .string) (hn : S k0 = none)
  (hs : HS w0 F0 w F (e :: L)) (hp : H8 b S e) (hle : Sh Fs F) (hL : ∀ p, p ∈ Lc -> p ∈ L) (hLz : zd = false -> ∀ p, p ∈ Lz -> p ∈ L)
  (kk : ∀ e' w', HS w0 F0 w' F (e' :: L) -> H8 b (Et S k0 v) e' -> DWP P n R PQ Post zz (DZ Fs Lc Lz) fuel l' f w') : AA P n R PQ Post zz (DZ Fs Lc Lz) fuel ll i f w := by
 obtain ⟨es, clk, rfl, h2⟩ := hp
 have hb := hs.ownAt (k := 0) rfl
 obtain ⟨r, h3, h4⟩ := h2 k0
 rw [hn] at h4
 have hr : r = none := by cases r with | none => rfl | some p => cases h4
 subst hr
 have hs' := hs.put (k := 0) rfl (.map (es.push ⟨.string ⟨k0.toArray⟩, v, clk⟩) (clk + 1))
 have hset : (setObj b (.map (es.push ⟨.string ⟨k0.toArray⟩, v, clk⟩) (clk + 1))).run P w = .ok () (Ch w b (.map (es.push ⟨.string ⟨k0.toArray⟩, v, clk⟩) (clk + 1))) := by
  rw [MapKept.run_setObj_map _ hb]; rfl
 refine Sz hl hzd ho hg (w' := Ch w b (.map (es.push ⟨.string ⟨k0.toArray⟩, v, clk⟩) (clk + 1))) ?_ (Bu hs' hle (fun p hp => List.mem_cons_of_mem _ (hL p hp)) (fun e p hp => List.mem_cons_of_mem _ (hLz e p hp))) (kk _ _ hs' (H8.ins h2 k0 v hn))
 have e : Ak (fev f) (.insert mt m x y) ty = (do Instr.mapUpdate mt (fev f m) (fev f x) (fev f y); pure .skip) := rfl
 rw [e, hm, hx, hy]
 simp [Instr.mapUpdate, run_underlying hu, MapKept.run_getObj_map hb, MapKept.run_checkKey hk (k := .string ⟨k0.toArray⟩) trivial, MapKept.run_findKey hk h3, Result.andThen, hset]
abbrev SE := @AA.pIns
end
def EB (b : Nat) : SF -> Option Value := fun t => if t = [112, 111, 105, 110, 116, 115] then some (.pointer (some ⟨b, 0, none⟩)) else if t = [109, 117, 108, 116, 105, 112, 108, 105, 101, 114] then some (.pointer (some ⟨b, 1, none⟩)) else if t = [112, 101, 110, 97, 108, 116, 121] then some (.pointer (some ⟨b, 2, none⟩)) else none
section
variable {b : Nat} {t : SF}
theorem OW (h : (t == ([112, 111, 105, 110, 116, 115] : SF)) = true) : EB b t = some (.pointer (some ⟨b, 0, none⟩)) := by
 have := eq_of_beq h; subst this; rfl
end
theorem NZ {wb w : World} {Fb F : Mem} {L : Own} {f : Fr} {bp : Nat} {Q : Exit -> Fr -> World -> Prop} (hs0 : HS wb Fb w F L) (h1 : f 1 = .pointer (some ⟨bp, 0, none⟩))
  (k : ∀ (f' : Fr) (w' : World) (e : Option Nat × Obj) (b : Nat), HS wb Fb w' F (e :: L) -> H8 b (EB bp) e -> f' 6 = .map (some b) -> (f'.d = f.d /\ f' 0 = f 0 /\ f' 4 = f 4) -> Q .normal f' w') : CWP Tryz.prog none 114 (cs1 (cs2 (cs2 (B8 Tryz.f81)))) Q f w := by
 refine CWP.regionD (by kernel_rfl) (by kernel_rfl) (by kernel_rfl) (by kernel_rfl) (z := 15) (F := F) (Lc := []) (Lz := []) (l := [false, false, false, false, false, false, false, false, false, false, false, false, false, false, false]) (fuel := 15) (by kernel_rfl) (by kernel_rfl) hs0 (by simp) (by simp) (fun f' w' => ∃ e b, HS wb Fb w' F (e :: L) /\ H8 b (EB bp) e /\ f' 6 = .map (some b) /\ f'.d = f.d /\ f' 0 = f 0 /\ f' 4 = f 4) (fun wd hw => ?_) ?_
 ·refine Sv (i := 1) (v := (.pointer (some ⟨bp, 0, none⟩))) (zd := true) (dst := (some 49)) (ty := 102) (g := none) (by kernel_rfl) (by kernel_rfl) (by kernel_rfl) (by kernel_rfl) (by kernel_rfl) rfl (fun wq hq => (AO (x := .tmp 1) (v := (.pointer (some ⟨bp, 0, none⟩))) h1)) (l' := [false, true, false, false, false, false, false, false, false, false, false, false, false, false, false]) (by kernel_rfl) ?_
  refine Sv (i := 2) (v := (.pointer (some ⟨bp, 0, none⟩))) (zd := true) (dst := (some 50)) (ty := 0) (g := none) (by kernel_rfl) (by kernel_rfl) (by kernel_rfl) (by kernel_rfl) (by kernel_rfl) rfl (fun wq hq => (De (x := .tmp 49) (a := ⟨bp, 0, none⟩) rfl)) (l' := [false, true, true, false, false, false, false, false, false, false, false, false, false, false, false]) (by kernel_rfl) ?_
  refine Sv (i := 3) (v := (.pointer (some ⟨bp, 0, none⟩))) (zd := true) (dst := (some 51)) (ty := 0) (g := none) (by kernel_rfl) (by kernel_rfl) (by kernel_rfl) (by kernel_rfl) (by kernel_rfl) rfl (fun wq hq => (BS (s := 26) (x := .tmp 50) (i := 0) (o := 0) (k := 1) (b := bp) (o0 := 0) rfl (by kernel_rfl) rfl (o1 := 0) rfl)) (l' := [false, true, true, true, false, false, false, false, false, false, false, false, false, false, false]) (by kernel_rfl) ?_
  refine Sv (i := 5) (v := (.pointer (some ⟨bp, 0, none⟩))) (zd := true) (dst := (some 52)) (ty := 102) (g := none) (by kernel_rfl) (by kernel_rfl) (by kernel_rfl) (by kernel_rfl) (by kernel_rfl) rfl (fun wq hq => (AO (x := .tmp 1) (v := (.pointer (some ⟨bp, 0, none⟩))) h1)) (l' := [false, true, true, true, false, true, false, false, false, false, false, false, false, false, false]) (by kernel_rfl) ?_
  refine Sv (i := 6) (v := (.pointer (some ⟨bp, 0, none⟩))) (zd := true) (dst := (some 53)) (ty := 0) (g := none) (by kernel_rfl) (by kernel_rfl) (by kernel_rfl) (by kernel_rfl) (by kernel_rfl) rfl (fun wq hq => (De (x := .tmp 52) (a := ⟨bp, 0, none⟩) rfl)) (l' := [false, true, true, true, false, true, true, false, false, false, false, false, false, false, false]) (by kernel_rfl) ?_
  refine Sv (i := 7) (v := (.pointer (some ⟨bp, 1, none⟩))) (zd := true) (dst := (some 54)) (ty := 0) (g := none) (by kernel_rfl) (by kernel_rfl) (by kernel_rfl) (by kernel_rfl) (by kernel_rfl) rfl (fun wq hq => (BS (s := 26) (x := .tmp 53) (i := 1) (o := 1) (k := 1) (b := bp) (o0 := 0) rfl (by kernel_rfl) rfl (o1 := 1) rfl)) (l' := [false, true, true, true, false, true, true, true, false, false, false, false, false, false, false]) (by kernel_rfl) ?_
  refine Sv (i := 9) (v := (.pointer (some ⟨bp, 0, none⟩))) (zd := true) (dst := (some 55)) (ty := 102) (g := none) (by kernel_rfl) (by kernel_rfl) (by kernel_rfl) (by kernel_rfl) (by kernel_rfl) rfl (fun wq hq => (AO (x := .tmp 1) (v := (.pointer (some ⟨bp, 0, none⟩))) h1)) (l' := [false, true, true, true, false, true, true, true, false, true, false, false, false, false, false]) (by kernel_rfl) ?_
  refine Sv (i := 10) (v := (.pointer (some ⟨bp, 0, none⟩))) (zd := true) (dst := (some 56)) (ty := 0) (g := none) (by kernel_rfl) (by kernel_rfl) (by kernel_rfl) (by kernel_rfl) (by kernel_rfl) rfl (fun wq hq => (De (x := .tmp 55) (a := ⟨bp, 0, none⟩) rfl)) (l' := [false, true, true, true, false, true, true, true, false, true, true, false, false, false, false]) (by kernel_rfl) ?_
  refine Sv (i := 11) (v := (.pointer (some ⟨bp, 2, none⟩))) (zd := true) (dst := (some 57)) (ty := 0) (g := none) (by kernel_rfl) (by kernel_rfl) (by kernel_rfl) (by kernel_rfl) (by kernel_rfl) rfl (fun wq hq => (BS (s := 26) (x := .tmp 56) (i := 2) (o := 2) (k := 1) (b := bp) (o0 := 0) rfl (by kernel_rfl) rfl (o1 := 2) rfl)) (l' := [false, true, true, true, false, true, true, true, false, true, true, true, false, false, false]) (by kernel_rfl) ?_
  refine Sx (i := 0) (by kernel_rfl) ?_
  refine AA.pMake (l' := [true, true, true, true, false, true, true, true, false, true, true, true, false, false, false]) (zd := true) (by kernel_rfl) (by kernel_rfl) (dst := some 48) (ty := 167) (g := none) (by kernel_rfl) rfl (t := 167) hw (Si _) (by simp) (fun e => by cases e) (fun b e0 w0 hs1 hp0 => ?_)
  refine DWP.three (i := 4) (j := 8) (k := 12) (by kernel_rfl) ?_ ?_ ?_
  ·
   refine SE (l' := [true, true, true, true, true, true, true, true, false, true, true, true, false, false, false]) (zd := true) (by kernel_rfl) (by kernel_rfl) (ty := 0) (g := none) (by kernel_rfl) rfl (mt := 167) (k := 9) (vt := 166) (m := .tmp 48) (x := .const (.string ⟨([112, 111, 105, 110, 116, 115] : SF).toArray⟩)) (y := .tmp 51) (k0 := [112, 111, 105, 110, 116, 115]) (v := .pointer (some ⟨bp, 0, none⟩)) rfl rfl rfl (by kernel_rfl) (by kernel_rfl) (by simp [Et]) hs1 hp0 (Si _) (by simp) (fun e => by cases e) (fun e11 w11 hs11 hp11 => ?_)
   refine DWP.two (i := 8) (j := 12) (by kernel_rfl) ?_ ?_
   ·
    refine SE (l' := [true, true, true, true, true, true, true, true, true, true, true, true, false, false, false]) (zd := true) (by kernel_rfl) (by kernel_rfl) (ty := 0) (g := none) (by kernel_rfl) rfl (mt := 167) (k := 9) (vt := 166) (m := .tmp 48) (x := .const (.string ⟨([109, 117, 108, 116, 105, 112, 108, 105, 101, 114] : SF).toArray⟩)) (y := .tmp 54) (k0 := [109, 117, 108, 116, 105, 112, 108, 105, 101, 114]) (v := .pointer (some ⟨bp, 1, none⟩)) rfl rfl rfl (by kernel_rfl) (by kernel_rfl) (by simp [Et]) hs11 hp11 (Si _) (by simp) (fun e => by cases e) (fun e12 w12 hs12 hp12 => ?_)
    refine Sx (i := 12) (by kernel_rfl) ?_
    refine SE (l' := [true, true, true, true, true, true, true, true, true, true, true, true, true, false, false]) (zd := true) (by kernel_rfl) (by kernel_rfl) (ty := 0) (g := none) (by kernel_rfl) rfl (mt := 167) (k := 9) (vt := 166) (m := .tmp 48) (x := .const (.string ⟨([112, 101, 110, 97, 108, 116, 121] : SF).toArray⟩)) (y := .tmp 57) (k0 := [112, 101, 110, 97, 108, 116, 121]) (v := .pointer (some ⟨bp, 2, none⟩)) rfl rfl rfl (by kernel_rfl) (by kernel_rfl) (by simp [Et]) hs12 hp12 (Si _) (by simp) (fun e => by cases e) (fun e13 w13 hs13 hp13 => ?_)
    refine Sx (i := 13) (by kernel_rfl) ?_
    refine Sy (l' := [true, true, true, true, true, true, true, true, true, true, true, true, true, true, false]) (zd := true) (by kernel_rfl) (by kernel_rfl) (dst := some 58) (ty := 167) (g := none) (by kernel_rfl) rfl (AO (x := .tmp 48) (v := .map (some b)) rfl) (Bu hs13 (Si _) (by simp) (fun e => by cases e)) ?_
    refine Sx (i := 14) (by kernel_rfl) ?_
    refine Sy (l' := [true, true, true, true, true, true, true, true, true, true, true, true, true, true, true]) (zd := true) (by kernel_rfl) (by kernel_rfl) (dst := some 6) (ty := 167) (g := none) (by kernel_rfl) rfl (AB (x := .tmp 58) (v := .map (some b)) rfl) (Bu hs13 (Si _) (by simp) (fun e => by cases e)) ?_
    exact SA (by kernel_rfl) ⟨_, b, hs13, hp13.congr (fun k => by by_cases a : k = [112, 111, 105, 110, 116, 115] <;> by_cases b : k = [109, 117, 108, 116, 105, 112, 108, 105, 101, 114] <;> by_cases c : k = [112, 101, 110, 97, 108, 116, 121] <;> simp_all [Et, EB]), rfl, rfl, rfl, rfl⟩
   ·
    refine SE (l' := [true, true, true, true, true, true, true, true, false, true, true, true, true, false, false]) (zd := true) (by kernel_rfl) (by kernel_rfl) (ty := 0) (g := none) (by kernel_rfl) rfl (mt := 167) (k := 9) (vt := 166) (m := .tmp 48) (x := .const (.string ⟨([112, 101, 110, 97, 108, 116, 121] : SF).toArray⟩)) (y := .tmp 57) (k0 := [112, 101, 110, 97, 108, 116, 121]) (v := .pointer (some ⟨bp, 2, none⟩)) rfl rfl rfl (by kernel_rfl) (by kernel_rfl) (by simp [Et]) hs11 hp11 (Si _) (by simp) (fun e => by cases e) (fun e14 w14 hs14 hp14 => ?_)
    refine Sx (i := 8) (by kernel_rfl) ?_
    refine SE (l' := [true, true, true, true, true, true, true, true, true, true, true, true, true, false, false]) (zd := true) (by kernel_rfl) (by kernel_rfl) (ty := 0) (g := none) (by kernel_rfl) rfl (mt := 167) (k := 9) (vt := 166) (m := .tmp 48) (x := .const (.string ⟨([109, 117, 108, 116, 105, 112, 108, 105, 101, 114] : SF).toArray⟩)) (y := .tmp 54) (k0 := [109, 117, 108, 116, 105, 112, 108, 105, 101, 114]) (v := .pointer (some ⟨bp, 1, none⟩)) rfl rfl rfl (by kernel_rfl) (by kernel_rfl) (by simp [Et]) hs14 hp14 (Si _) (by simp) (fun e => by cases e) (fun e15 w15 hs15 hp15 => ?_)
    refine Sx (i := 13) (by kernel_rfl) ?_
    refine Sy (l' := [true, true, true, true, true, true, true, true, true, true, true, true, true, true, false]) (zd := true) (by kernel_rfl) (by kernel_rfl) (dst := some 58) (ty := 167) (g := none) (by kernel_rfl) rfl (AO (x := .tmp 48) (v := .map (some b)) rfl) (Bu hs15 (Si _) (by simp) (fun e => by cases e)) ?_
    refine Sx (i := 14) (by kernel_rfl) ?_
    refine Sy (l' := [true, true, true, true, true, true, true, true, true, true, true, true, true, true, true]) (zd := true) (by kernel_rfl) (by kernel_rfl) (dst := some 6) (ty := 167) (g := none) (by kernel_rfl) rfl (AB (x := .tmp 58) (v := .map (some b)) rfl) (Bu hs15 (Si _) (by simp) (fun e => by cases e)) ?_
    exact SA (by kernel_rfl) ⟨_, b, hs15, hp15.congr (fun k => by by_cases a : k = [112, 111, 105, 110, 116, 115] <;> by_cases b : k = [109, 117, 108, 116, 105, 112, 108, 105, 101, 114] <;> by_cases c : k = [112, 101, 110, 97, 108, 116, 121] <;> simp_all [Et, EB]), rfl, rfl, rfl, rfl⟩
  ·
   refine SE (l' := [true, true, true, true, false, true, true, true, true, true, true, true, false, false, false]) (zd := true) (by kernel_rfl) (by kernel_rfl) (ty := 0) (g := none) (by kernel_rfl) rfl (mt := 167) (k := 9) (vt := 166) (m := .tmp 48) (x := .const (.string ⟨([109, 117, 108, 116, 105, 112, 108, 105, 101, 114] : SF).toArray⟩)) (y := .tmp 54) (k0 := [109, 117, 108, 116, 105, 112, 108, 105, 101, 114]) (v := .pointer (some ⟨bp, 1, none⟩)) rfl rfl rfl (by kernel_rfl) (by kernel_rfl) (by simp [Et]) hs1 hp0 (Si _) (by simp) (fun e => by cases e) (fun e16 w16 hs16 hp16 => ?_)
   refine DWP.two (i := 4) (j := 12) (by kernel_rfl) ?_ ?_
   ·
    refine SE (l' := [true, true, true, true, true, true, true, true, true, true, true, true, false, false, false]) (zd := true) (by kernel_rfl) (by kernel_rfl) (ty := 0) (g := none) (by kernel_rfl) rfl (mt := 167) (k := 9) (vt := 166) (m := .tmp 48) (x := .const (.string ⟨([112, 111, 105, 110, 116, 115] : SF).toArray⟩)) (y := .tmp 51) (k0 := [112, 111, 105, 110, 116, 115]) (v := .pointer (some ⟨bp, 0, none⟩)) rfl rfl rfl (by kernel_rfl) (by kernel_rfl) (by simp [Et]) hs16 hp16 (Si _) (by simp) (fun e => by cases e) (fun e17 w17 hs17 hp17 => ?_)
    refine Sx (i := 12) (by kernel_rfl) ?_
    refine SE (l' := [true, true, true, true, true, true, true, true, true, true, true, true, true, false, false]) (zd := true) (by kernel_rfl) (by kernel_rfl) (ty := 0) (g := none) (by kernel_rfl) rfl (mt := 167) (k := 9) (vt := 166) (m := .tmp 48) (x := .const (.string ⟨([112, 101, 110, 97, 108, 116, 121] : SF).toArray⟩)) (y := .tmp 57) (k0 := [112, 101, 110, 97, 108, 116, 121]) (v := .pointer (some ⟨bp, 2, none⟩)) rfl rfl rfl (by kernel_rfl) (by kernel_rfl) (by simp [Et]) hs17 hp17 (Si _) (by simp) (fun e => by cases e) (fun e18 w18 hs18 hp18 => ?_)
    refine Sx (i := 13) (by kernel_rfl) ?_
    refine Sy (l' := [true, true, true, true, true, true, true, true, true, true, true, true, true, true, false]) (zd := true) (by kernel_rfl) (by kernel_rfl) (dst := some 58) (ty := 167) (g := none) (by kernel_rfl) rfl (AO (x := .tmp 48) (v := .map (some b)) rfl) (Bu hs18 (Si _) (by simp) (fun e => by cases e)) ?_
    refine Sx (i := 14) (by kernel_rfl) ?_
    refine Sy (l' := [true, true, true, true, true, true, true, true, true, true, true, true, true, true, true]) (zd := true) (by kernel_rfl) (by kernel_rfl) (dst := some 6) (ty := 167) (g := none) (by kernel_rfl) rfl (AB (x := .tmp 58) (v := .map (some b)) rfl) (Bu hs18 (Si _) (by simp) (fun e => by cases e)) ?_
    exact SA (by kernel_rfl) ⟨_, b, hs18, hp18.congr (fun k => by by_cases a : k = [112, 111, 105, 110, 116, 115] <;> by_cases b : k = [109, 117, 108, 116, 105, 112, 108, 105, 101, 114] <;> by_cases c : k = [112, 101, 110, 97, 108, 116, 121] <;> simp_all [Et, EB]), rfl, rfl, rfl, rfl⟩
   ·
    refine SE (l' := [true, true, true, true, false, true, true, true, true, true, true, true, true, false, false]) (zd := true) (by kernel_rfl) (by kernel_rfl) (ty := 0) (g := none) (by kernel_rfl) rfl (mt := 167) (k := 9) (vt := 166) (m := .tmp 48) (x := .const (.string ⟨([112, 101, 110, 97, 108, 116, 121] : SF).toArray⟩)) (y := .tmp 57) (k0 := [112, 101, 110, 97, 108, 116, 121]) (v := .pointer (some ⟨bp, 2, none⟩)) rfl rfl rfl (by kernel_rfl) (by kernel_rfl) (by simp [Et]) hs16 hp16 (Si _) (by simp) (fun e => by cases e) (fun e19 w19 hs19 hp19 => ?_)
    refine Sx (i := 4) (by kernel_rfl) ?_
    refine SE (l' := [true, true, true, true, true, true, true, true, true, true, true, true, true, false, false]) (zd := true) (by kernel_rfl) (by kernel_rfl) (ty := 0) (g := none) (by kernel_rfl) rfl (mt := 167) (k := 9) (vt := 166) (m := .tmp 48) (x := .const (.string ⟨([112, 111, 105, 110, 116, 115] : SF).toArray⟩)) (y := .tmp 51) (k0 := [112, 111, 105, 110, 116, 115]) (v := .pointer (some ⟨bp, 0, none⟩)) rfl rfl rfl (by kernel_rfl) (by kernel_rfl) (by simp [Et]) hs19 hp19 (Si _) (by simp) (fun e => by cases e) (fun e20 w20 hs20 hp20 => ?_)
    refine Sx (i := 13) (by kernel_rfl) ?_
    refine Sy (l' := [true, true, true, true, true, true, true, true, true, true, true, true, true, true, false]) (zd := true) (by kernel_rfl) (by kernel_rfl) (dst := some 58) (ty := 167) (g := none) (by kernel_rfl) rfl (AO (x := .tmp 48) (v := .map (some b)) rfl) (Bu hs20 (Si _) (by simp) (fun e => by cases e)) ?_
    refine Sx (i := 14) (by kernel_rfl) ?_
    refine Sy (l' := [true, true, true, true, true, true, true, true, true, true, true, true, true, true, true]) (zd := true) (by kernel_rfl) (by kernel_rfl) (dst := some 6) (ty := 167) (g := none) (by kernel_rfl) rfl (AB (x := .tmp 58) (v := .map (some b)) rfl) (Bu hs20 (Si _) (by simp) (fun e => by cases e)) ?_
    exact SA (by kernel_rfl) ⟨_, b, hs20, hp20.congr (fun k => by by_cases a : k = [112, 111, 105, 110, 116, 115] <;> by_cases b : k = [109, 117, 108, 116, 105, 112, 108, 105, 101, 114] <;> by_cases c : k = [112, 101, 110, 97, 108, 116, 121] <;> simp_all [Et, EB]), rfl, rfl, rfl, rfl⟩
  ·
   refine SE (l' := [true, true, true, true, false, true, true, true, false, true, true, true, true, false, false]) (zd := true) (by kernel_rfl) (by kernel_rfl) (ty := 0) (g := none) (by kernel_rfl) rfl (mt := 167) (k := 9) (vt := 166) (m := .tmp 48) (x := .const (.string ⟨([112, 101, 110, 97, 108, 116, 121] : SF).toArray⟩)) (y := .tmp 57) (k0 := [112, 101, 110, 97, 108, 116, 121]) (v := .pointer (some ⟨bp, 2, none⟩)) rfl rfl rfl (by kernel_rfl) (by kernel_rfl) (by simp [Et]) hs1 hp0 (Si _) (by simp) (fun e => by cases e) (fun e21 w21 hs21 hp21 => ?_)
   refine DWP.two (i := 4) (j := 8) (by kernel_rfl) ?_ ?_
   ·
    refine SE (l' := [true, true, true, true, true, true, true, true, false, true, true, true, true, false, false]) (zd := true) (by kernel_rfl) (by kernel_rfl) (ty := 0) (g := none) (by kernel_rfl) rfl (mt := 167) (k := 9) (vt := 166) (m := .tmp 48) (x := .const (.string ⟨([112, 111, 105, 110, 116, 115] : SF).toArray⟩)) (y := .tmp 51) (k0 := [112, 111, 105, 110, 116, 115]) (v := .pointer (some ⟨bp, 0, none⟩)) rfl rfl rfl (by kernel_rfl) (by kernel_rfl) (by simp [Et]) hs21 hp21 (Si _) (by simp) (fun e => by cases e) (fun e22 w22 hs22 hp22 => ?_)
    refine Sx (i := 8) (by kernel_rfl) ?_
    refine SE (l' := [true, true, true, true, true, true, true, true, true, true, true, true, true, false, false]) (zd := true) (by kernel_rfl) (by kernel_rfl) (ty := 0) (g := none) (by kernel_rfl) rfl (mt := 167) (k := 9) (vt := 166) (m := .tmp 48) (x := .const (.string ⟨([109, 117, 108, 116, 105, 112, 108, 105, 101, 114] : SF).toArray⟩)) (y := .tmp 54) (k0 := [109, 117, 108, 116, 105, 112, 108, 105, 101, 114]) (v := .pointer (some ⟨bp, 1, none⟩)) rfl rfl rfl (by kernel_rfl) (by kernel_rfl) (by simp [Et]) hs22 hp22 (Si _) (by simp) (fun e => by cases e) (fun e23 w23 hs23 hp23 => ?_)
    refine Sx (i := 13) (by kernel_rfl) ?_
    refine Sy (l' := [true, true, true, true, true, true, true, true, true, true, true, true, true, true, false]) (zd := true) (by kernel_rfl) (by kernel_rfl) (dst := some 58) (ty := 167) (g := none) (by kernel_rfl) rfl (AO (x := .tmp 48) (v := .map (some b)) rfl) (Bu hs23 (Si _) (by simp) (fun e => by cases e)) ?_
    refine Sx (i := 14) (by kernel_rfl) ?_
    refine Sy (l' := [true, true, true, true, true, true, true, true, true, true, true, true, true, true, true]) (zd := true) (by kernel_rfl) (by kernel_rfl) (dst := some 6) (ty := 167) (g := none) (by kernel_rfl) rfl (AB (x := .tmp 58) (v := .map (some b)) rfl) (Bu hs23 (Si _) (by simp) (fun e => by cases e)) ?_
    exact SA (by kernel_rfl) ⟨_, b, hs23, hp23.congr (fun k => by by_cases a : k = [112, 111, 105, 110, 116, 115] <;> by_cases b : k = [109, 117, 108, 116, 105, 112, 108, 105, 101, 114] <;> by_cases c : k = [112, 101, 110, 97, 108, 116, 121] <;> simp_all [Et, EB]), rfl, rfl, rfl, rfl⟩
   ·
    refine SE (l' := [true, true, true, true, false, true, true, true, true, true, true, true, true, false, false]) (zd := true) (by kernel_rfl) (by kernel_rfl) (ty := 0) (g := none) (by kernel_rfl) rfl (mt := 167) (k := 9) (vt := 166) (m := .tmp 48) (x := .const (.string ⟨([109, 117, 108, 116, 105, 112, 108, 105, 101, 114] : SF).toArray⟩)) (y := .tmp 54) (k0 := [109, 117, 108, 116, 105, 112, 108, 105, 101, 114]) (v := .pointer (some ⟨bp, 1, none⟩)) rfl rfl rfl (by kernel_rfl) (by kernel_rfl) (by simp [Et]) hs21 hp21 (Si _) (by simp) (fun e => by cases e) (fun e24 w24 hs24 hp24 => ?_)
    refine Sx (i := 4) (by kernel_rfl) ?_
    refine SE (l' := [true, true, true, true, true, true, true, true, true, true, true, true, true, false, false]) (zd := true) (by kernel_rfl) (by kernel_rfl) (ty := 0) (g := none) (by kernel_rfl) rfl (mt := 167) (k := 9) (vt := 166) (m := .tmp 48) (x := .const (.string ⟨([112, 111, 105, 110, 116, 115] : SF).toArray⟩)) (y := .tmp 51) (k0 := [112, 111, 105, 110, 116, 115]) (v := .pointer (some ⟨bp, 0, none⟩)) rfl rfl rfl (by kernel_rfl) (by kernel_rfl) (by simp [Et]) hs24 hp24 (Si _) (by simp) (fun e => by cases e) (fun e25 w25 hs25 hp25 => ?_)
    refine Sx (i := 13) (by kernel_rfl) ?_
    refine Sy (l' := [true, true, true, true, true, true, true, true, true, true, true, true, true, true, false]) (zd := true) (by kernel_rfl) (by kernel_rfl) (dst := some 58) (ty := 167) (g := none) (by kernel_rfl) rfl (AO (x := .tmp 48) (v := .map (some b)) rfl) (Bu hs25 (Si _) (by simp) (fun e => by cases e)) ?_
    refine Sx (i := 14) (by kernel_rfl) ?_
    refine Sy (l' := [true, true, true, true, true, true, true, true, true, true, true, true, true, true, true]) (zd := true) (by kernel_rfl) (by kernel_rfl) (dst := some 6) (ty := 167) (g := none) (by kernel_rfl) rfl (AB (x := .tmp 58) (v := .map (some b)) rfl) (Bu hs25 (Si _) (by simp) (fun e => by cases e)) ?_
    exact SA (by kernel_rfl) ⟨_, b, hs25, hp25.congr (fun k => by by_cases a : k = [112, 111, 105, 110, 116, 115] <;> by_cases b : k = [109, 117, 108, 116, 105, 112, 108, 105, 101, 114] <;> by_cases c : k = [112, 101, 110, 97, 108, 116, 121] <;> simp_all [Et, EB]), rfl, rfl, rfl, rfl⟩
 ·rintro f' w' ⟨e, b, h1, h2, h3, h4, h5⟩
  exact k f' w' e b h1 h2 h3 ⟨h4, h5⟩
def E4 (N : Nat) (x0 : Ab) (x1 : Be) : Option (Ah ⊕ (Ab × Be)) :=
 ((idx x0.l_ 0).bind fun x21 => ((Au N x0 ([114, 101, 112, 101, 97, 116] : SF)).bind fun r41 => (bif r41.2 then ((A9 N r41.1 ([58] : SF)).bind fun r51 => sk r51 (fun b242 => some (.inl b242)) (fun r54 => ((BI N r54).bind fun r61 => sk r61 (fun b235 => some (.inl b235)) (fun r64 => ((C8 N r64.1).bind fun r77 => sk r77 (fun b228 => some (.inl b228)) (fun r80 => (((Eh N r64.1 x1.Repeats x21.at_).bind fun r100 => sk r100 (fun b110 => some (.inl b110)) (fun r103 => some (.inr ()))).bind fun j92 => sk j92 (fun b222 => some (.inl b222)) (fun J99 => ((BU N r64.1 r64.2 1).bind fun r118 => sk r118 (fun b215 => some (.inl b215)) (fun r121 => (((Gh x1.Repeats [({ Op := 0, Value := 0, Kids := ([] : List Expr) } : Expr)]).bind fun r142 => ((idx r142 (x1.Repeats.length : Int)).bind fun x151 => some (r142.set ((x1.Repeats.length : Int) : Int).toNat r64.2.Expr))).bind fun j133 => some (.inr (r64.1, ({ Points := x1.Points, Multipliers := x1.Multipliers, Penalties := x1.Penalties, Repeats := j133 } : Be)))))))))))))) else (bif (x21.text_ == ([112, 111, 105, 110, 116, 115] : SF)) then ((Au N r41.1 x21.text_).bind fun r264 => (bif (!r264.2) then ((AZ N r264.1 60 x21.at_).bind fun r274 => sk r274 (fun b279 => some (.inl b279)) (fun r277 => none)) else ((A9 N r264.1 ([58] : SF)).bind fun r286 => sk r286 (fun b489 => some (.inl b489)) (fun r289 => ((BI N r289).bind fun r296 => sk r296 (fun b482 => some (.inl b482)) (fun r299 => ((A9 N r299.1 ([61, 62] : SF)).bind fun r319 => sk r319 (fun b475 => some (.inl b475)) (fun r322 => ((BI N r322).bind fun r329 => sk r329 (fun b468 => some (.inl b468)) (fun r332 => ((C8 N r332.1).bind fun r354 => sk r354 (fun b461 => some (.inl b461)) (fun r357 => (((DB N r332.1 x1.Points x21.at_).bind fun r378 => sk r378 (fun b388 => some (.inl b388)) (fun r381 => some (.inr ()))).bind fun j369 => sk j369 (fun b455 => some (.inl b455)) (fun J377 => ((BU N r332.1 r299.2 2).bind fun r396 => sk r396 (fun b448 => some (.inl b448)) (fun r399 => ((BU N r332.1 r332.2 1).bind fun r406 => sk r406 (fun b441 => some (.inl b441)) (fun r409 => (((Gh x1.Points [({ When := r299.2.Expr, Then := r332.2.Expr } : Clause)]).bind fun r430 => some r430).bind fun j421 => some (.inr (r332.1, ({ Points := j421, Multipliers := x1.Multipliers, Penalties := x1.Penalties, Repeats := x1.Repeats } : Be)))))))))))))))))))))) else none))))
theorem GS : Al Tryz.prog 81 := fun _ _ => by kernel_rfl
theorem Hw (N : Nat) {wb w0 : World} {Fb F0 : Mem} {Lf : Own} (hG : B0 F0) (bp0 : Nat) (x0 : Ab) (a0_0 : SG) (n0_0 : Nat) (hb0_0 : LC x0.l_.length n0_0) (hs0_0 : SlA Af F0 a0_0 x0.l_) (bp1 : Nat) (x1 : Be) (a1_0 : SG) (n1_0 : Nat) (e1_0 : Option Nat × Obj) (a1_1 : SG) (n1_1 : Nat) (e1_1 : Option Nat × Obj) (a1_2 : SG) (n1_2 : Nat) (e1_2 : Option Nat × Obj) (a1_3 : SG) (n1_3 : Nat) (e1_3 : Option Nat × Obj) (hr1_0 : Aw As 56 F0 a1_0 n1_0 x1.Points e1_0) (hr1_1 : Aw As 56 F0 a1_1 n1_1 x1.Multipliers e1_1) (hr1_2 : Aw As 56 F0 a1_2 n1_2 x1.Penalties e1_2) (hr1_3 : Aw Ao 33 F0 a1_3 n1_3 x1.Repeats e1_3) (hs0 : HS wb Fb w0 F0 ((sb bp0 (Ad x0 a0_0 n0_0) 100) :: (sb bp1 (AU x1 a1_0 n1_0 a1_1 n1_1 a1_2 n1_2 a1_3 n1_3) 26) :: e1_0 :: e1_1 :: e1_2 :: e1_3 :: Lf)) (r : (Ah ⊕ (Ab × Be))) (h : E4 N x0 x1 = some r) :
  Calls Tryz.prog 81 ([(pt bp0 0), (pt bp1 0)] : List Value).toArray w0 (BB wb Fb F0 Lf r (fun b => (.iface 158 (.agg (AL b)))) fun a F' v L' => ∃ (aq0_0 : SG) (nq0_0 : Nat) (aq1_0 : SG) (nq1_0 : Nat) (eq1_0 : Option Nat × Obj) (aq1_1 : SG) (nq1_1 : Nat) (eq1_1 : Option Nat × Obj) (aq1_2 : SG) (nq1_2 : Nat) (eq1_2 : Option Nat × Obj) (aq1_3 : SG) (nq1_3 : Nat) (eq1_3 : Option Nat × Obj), v = (.tuple #[]) /\ L' = (sb bp0 (Ad a.1 aq0_0 nq0_0) 100) :: (sb bp1 (AU a.2 aq1_0 nq1_0 aq1_1 nq1_1 aq1_2 nq1_2 aq1_3 nq1_3) 26) :: eq1_0 :: eq1_1 :: eq1_2 :: eq1_3 :: Lf /\ LC a.1.l_.length nq0_0 /\ SlA Af F' aq0_0 a.1.l_ /\ Aw As 56 F' aq1_0 nq1_0 a.2.Points eq1_0 /\ Aw As 56 F' aq1_1 nq1_1 a.2.Multipliers eq1_1 /\ Aw As 56 F' aq1_2 nq1_2 a.2.Penalties eq1_2 /\ Aw Ao 33 F' aq1_3 nq1_3 a.2.Repeats eq1_3) := by
 refine Go 114 Tryz.func81 ?_
 refine Sq (Rg [0, 1, 2, 3, 4, 5, 6, 7] ?_)
 refine Vs 3 ?_
 refine Ld hs0.at0 ?_
 obtain ⟨x21, hx22, h24⟩ := bind_some h
 obtain ⟨hi23, hx22'⟩ := Ap hx22
 obtain ⟨b25, o26, C27, E28, fz29, rfl, hF31, hE32⟩ := Su hs0_0 hx22'
 have hc34 := hE32 _ _ hx22'
 refine Ix hi23 ?_
 refine Lx 0 (hs0.pers _ _ hF31) hc34 ?_
 refine Al' 97 #[(vi 0), (vi 0), (.string ⟨(([] : SF)).toArray⟩)] hs0 (fun b35 w36 hs37 => ?_)
 refine St0 (Bd x21) hs37 (fun w38 hs39 => ?_)
 refine Nss ?_
 refine Sq (Rg [0, 1] ?_)
 refine Vs 1 ?_
 have hs40 := hs39.pk6.pk6.pk6.pk6.pk6.pk5
 obtain ⟨r41, hr42, h43⟩ := bind_some h24
 refine CB AH (AK N bp0 x0 (some ⟨b25, o26, none⟩) n0_0 hb0_0 hs0_0 (([114, 101, 112, 101, 97, 116] : SF)) hs40.pk6 _ hr42) ?_
 rintro _ F1 w44 _ hs45 le46 ⟨ar41_0_0, nr41_0_0, rfl, rfl, hbr41_0_0, hsr41_0_0⟩
 refine Nt ?_
 refine Cd h43 (fun hb48 h49 => ?_) (fun hb48 h50 => ?_)
 ·refine Sq (Rg [0, 1] ?_)
  refine Vs 1 ?_
  obtain ⟨r51, hr52, h53⟩ := bind_some h49
  refine CP A5 (Ba N bp0 r41.1 ar41_0_0 nr41_0_0 hbr41_0_0 hsr41_0_0 (([58] : SF)) hs45 _ hr52) ?_ ?_
  ·rintro r54 _ F2 w56 _ rfl hs57 le58 ⟨ar54_0_0, nr54_0_0, rfl, rfl, hbr54_0_0, hsr54_0_0⟩
   have h60 := BM h53
   refine Nss (Rg [0, 1, 2, 3] ?_)
   refine Vs 1 ?_
   obtain ⟨r61, hr62, h63⟩ := bind_some h60
   refine CP BR (BX N (hG.mono (le46.trans le58)) bp0 r54 ar54_0_0 nr54_0_0 hbr54_0_0 hsr54_0_0 hs57 _ hr62) ?_ ?_
   ·rintro r64 _ F3 w66 _ rfl hs67 le68 ⟨ar64_0_0, nr64_0_0, ar64_1_2, nr64_1_2, rfl, rfl, hbr64_0_0, hsr64_0_0, hbr64_1_2, hsr64_1_2⟩
    have h70 := BM h63
    refine Al' 113 #[(vi 0), (vi 0), (.slice none ([] : List Expr).length 0), (vi 0)] hs67 (fun b71 w72 hs73 => ?_)
    refine St0 (Ay r64.2 ar64_1_2 nr64_1_2) hs73 (fun w74 hs75 => ?_)
    refine Nss (Rg [0, 1] ?_)
    refine Vs 1 ?_
    have hs76 := hs75.pk7.pk7.pk7.pk7.pk7.pk7
    obtain ⟨r77, hr78, h79⟩ := bind_some h70
    refine CP DE (Ea N bp0 r64.1 ar64_0_0 nr64_0_0 hbr64_0_0 hsr64_0_0 hs76.pk6.pk7 _ hr78) ?_ ?_
    ·rintro r80 _ F4 w82 _ rfl hs83 le84 ⟨rfl, rfl⟩
     have h86 := BM h79
     refine Nss ?_
     obtain ⟨j92, hj97, h98⟩ := bind_some h86
     refine RDP 8 8 [(sb bp0 (Ad r64.1 ar64_0_0 nr64_0_0) 100), (sb b71 (Ay r64.2 ar64_1_2 nr64_1_2) 113), (sb b35 (Bd x21) 97), (sb bp1 (AU x1 a1_0 n1_0 a1_1 n1_1 a1_2 n1_2 a1_3 n1_3) 26), e1_0, e1_1, e1_2, e1_3] [] hs83 (fun c d w => d = [] /\ ∃ (b : Ah) (Fp : Mem), j92 = .inl b /\ c = [{ v := (.iface 158 (.agg (AL b))), recovered := false }] /\ HS wb Fb w Fp Lf /\ Sh F4 Fp) (fun f w => ∃ (J99 : Unit), j92 = .inr J99 /\ ∃ (F5 : Mem), HS wb Fb w F5 ((sb bp0 (Ad r64.1 ar64_0_0 nr64_0_0) 100) :: (sb b71 (Ay r64.2 ar64_1_2 nr64_1_2) 113) :: (sb bp1 (AU x1 a1_0 n1_0 a1_1 n1_1 a1_2 n1_2 a1_3 n1_3) 26) :: e1_0 :: e1_1 :: e1_2 :: e1_3 :: Lf) /\ Sh F4 F5 /\ FI f [] [(0, (pt bp0 0)), (1, (pt bp1 0)), (5, (pt b71 0))]) (fun wd87 hw88 => ?_) ?_ ?_
     ·refine Dv [0, 1, 2, 3] ?_
      refine Dl 4 (fun _ hq => (hq.1.2 3 _ _ rfl)) ?_
      refine Dv [5] ?_
      refine Dl 6 (fun _ hq => (hq.1.2 2 _ _ rfl)) ?_
      refine D1 7 ?_
      obtain ⟨r100, hr101, h102⟩ := bind_some hj97
      refine DCP Ge (Gt N bp0 r64.1 ar64_0_0 nr64_0_0 hbr64_0_0 (Sk hsr64_0_0 le84) x1.Repeats a1_3 n1_3 x21.at_ hw88 _ hr101) ?_ ?_
      ·rintro r103 _ F6 w105 _ rfl hs106 le107 ⟨rfl, rfl⟩
       have h109 := BM h102
       refine ⟨Bu hs106 le107 (by simp) (zdT (by kernel_rfl)), ?_⟩
       obtain rfl := Aa h109
       exact SA (by kernel_rfl) ⟨_, rfl, F6, hs106.dr2, le107, fI⟩
      ·rintro b110 F7 w111 rfl hs112 le113
       have h114 := Bj h102
       obtain rfl := Aa h114
       have hs116 := hs112.dr0.dr0.dr0.dr0.dr0
       exact ⟨rfl, _, _, rfl, rfl, hs116.dr0.dr0, le113⟩
     ·rintro f w89 ⟨J99, rfl, F5, hs90, le91, ⟨_, rfl⟩⟩
      have h117 := BM h98
      refine Ac ?_
      refine Sq (Rg [0, 1, 2] ?_)
      refine Vs 1 ?_
      refine Ld hs90.at1 ?_
      obtain ⟨r118, hr119, h120⟩ := bind_some h117
      refine CP BW (B5 N bp0 r64.1 ar64_0_0 nr64_0_0 hbr64_0_0 (Sk hsr64_0_0 (le84.trans le91)) r64.2 ar64_1_2 nr64_1_2 hbr64_1_2 (Sk hsr64_1_2 (le84.trans le91)) 1 hs90 _ hr119) ?_ ?_
      ·rintro r121 _ F8 w123 _ rfl hs124 le125 ⟨rfl, rfl⟩
       have h127 := BM h120
       refine Nss ?_
       obtain ⟨j133, hj135, h136⟩ := bind_some h127
       refine RD 14 14 [(sb bp0 (Ad r64.1 ar64_0_0 nr64_0_0) 100), (sb b71 (Ay r64.2 ar64_1_2 nr64_1_2) 113), e1_0, e1_1, e1_2] [] hs124 (fun f w => ∃ (F9 : Mem) (aj133_0 : SG) (nj133_0 : Nat) (ej133_0 : Option Nat × Obj), HS wb Fb w F9 ((sb bp0 (Ad r64.1 ar64_0_0 nr64_0_0) 100) :: (sb bp1 #[(.slice a1_0 x1.Points.length n1_0), (.slice a1_1 x1.Multipliers.length n1_1), (.slice a1_2 x1.Penalties.length n1_2), (.slice aj133_0 j133.length nj133_0)] 26) :: e1_0 :: e1_1 :: e1_2 :: ej133_0 :: Lf) /\ Sh F8 F9 /\ FI f [] [] /\ Aw Ao 33 F9 aj133_0 nj133_0 j133 ej133_0) (fun wd128 hw129 => ?_) ?_
       ·refine Dv [0, 1, 2, 4] ?_
        refine Dl 5 (fun _ hq => (hq.1.2 1 _ _ rfl)) ?_
        refine DWP.two (i := 3) (j := 7) (by kernel_rfl) ?_ ?_
        ·refine Sy (l' := [true, true, true, true, true, true, false, false, false, false, false, false, false, false]) (zd := true) (by kernel_rfl) (by kernel_rfl) (dst := (some 39)) (ty := 24) (g := none) (by kernel_rfl) rfl (B1 (t := 24) (x := (.tmp 38)) (b := bp1) (o := 3) (g := false) (s := 1) (C := (AU x1 a1_0 n1_0 a1_1 n1_1 a1_2 n1_2 a1_3 n1_3)) (v := (.slice a1_3 x1.Repeats.length n1_3)) rfl (by kernel_rfl) hw129.at2 rfl rfl rfl) (Bu hw129 (Si _) (by simp) (fun e => by cases e)) ?_
         refine Dv [6] ?_
         refine D1 7 ?_
         refine DBs 33 [(vi 0), (vi 0), (.slice none ([] : List Expr).length 0)] hw129 (Si _) (fun b137 w138 hs139 => ?_)
         have hr141 : Aw Ao 33 F8 (some ⟨b137, 0, none⟩) 1 [({ Op := 0, Value := 0, Kids := ([] : List Expr) } : Expr)] (some b137, .cells ([(vi 0), (vi 0), (.slice none ([] : List Expr).length 0)] : List Value).toArray 33 (0, 0)) := SC ⟨(Bb ⟨none, 0, rfl, Sl, (.inl rfl)⟩), rfl⟩ (by simp)
         refine D1 8 ?_
         obtain ⟨r142, hap143, h144⟩ := bind_some hj135
         refine RS PA hs139 (hr1_3.mono (((((le46.trans le58).trans le68).trans le84).trans le91).trans le125)) (hs139.rd0 hr141) hap143 (Si _) (fun a145 n146 e147 w148 hs149 hr150 => ?_)
         obtain ⟨x151, hx152, h154⟩ := bind_some h144
         obtain ⟨hi153, hx152'⟩ := Ap hx152
         obtain ⟨b155, C156, rfl, rfl, hE159⟩ := SD hr150 hx152'
         have hr160 := hr150
         obtain ⟨ae161_2, ne161_2, hc162, hbe161_2, hse161_2⟩ := (Az (hE159 _ _ hx152'))
         refine Dj 9 hi153 ?_
         refine Dv [11, 12] ?_
         refine DWP.two (i := 10) (j := 13) (by kernel_rfl) ?_ ?_
         ·refine AA.storeRow (l' := [true, true, true, true, true, true, true, true, true, true, true, true, true, false]) (zd := true) (by kernel_rfl) (by kernel_rfl) (ty := 0) (g := none) (by kernel_rfl) rfl (x := (.tmp 45)) (y := (.tmp 41)) (t := 33) (v := (.agg (Ag r64.2.Expr ar64_1_2 nr64_1_2))) (gg := true) (b := b155) (j := ((x1.Repeats.length : Int) : Int).toNat) (C := C156) (T := Ao) (E := 33) (u := r64.2.Expr) rfl rfl (by kernel_rfl) hs149 (k := 7) rfl hr160 hx152' (Bb ⟨ar64_1_2, nr64_1_2, rfl, hbr64_1_2, (Sk hsr64_1_2 ((le84.trans le91).trans le125))⟩) rfl (Si _) (fun _ => by simp) (fun e => by cases e) (fun C163 w164 (hs165 : HS wb Fb w164 F8 ((some b137, .cells ([(vi 0), (vi 0), (.slice none ([] : List Expr).length 0)] : List Value).toArray 33 (0, 0)) :: (sb bp0 (Ad r64.1 ar64_0_0 nr64_0_0) 100) :: (sb b71 (Ay r64.2 ar64_1_2 nr64_1_2) 113) :: (sb bp1 (AU x1 a1_0 n1_0 a1_1 n1_1 a1_2 n1_2 a1_3 n1_3) 26) :: e1_0 :: e1_1 :: e1_2 :: (some b155, .cells C163 33 (0, 0)) :: Lf)) hr166 => ?_)
          refine D1 13 ?_
          refine AA.store (l' := [true, true, true, true, true, true, true, true, true, true, true, true, true, true]) (zd := true) (by kernel_rfl) (by kernel_rfl) (ty := 0) (g := none) (by kernel_rfl) rfl (x := (.tmp 47)) (y := (.tmp 44)) (t := 24) (gg := false) (s := 1) (v := (.slice (some ⟨b155, 0, none⟩) (r142.set ((x1.Repeats.length : Int) : Int).toNat r64.2.Expr).length n146)) (b := bp1) (o := 3) (C := (AU x1 a1_0 n1_0 a1_1 n1_1 a1_2 n1_2 a1_3 n1_3)) rfl (Mn rfl) (by kernel_rfl) hs165 (k := 3) rfl rfl rfl rfl (C' := #[(.slice a1_0 x1.Points.length n1_0), (.slice a1_1 x1.Multipliers.length n1_1), (.slice a1_2 x1.Penalties.length n1_2), (.slice (some ⟨b155, 0, none⟩) (r142.set ((x1.Repeats.length : Int) : Int).toNat r64.2.Expr).length n146)]) rfl (Si _) (by simp) (fun e => by cases e) (fun w167 (hs168 : HS wb Fb w167 F8 ((some b137, .cells ([(vi 0), (vi 0), (.slice none ([] : List Expr).length 0)] : List Value).toArray 33 (0, 0)) :: (sb bp0 (Ad r64.1 ar64_0_0 nr64_0_0) 100) :: (sb b71 (Ay r64.2 ar64_1_2 nr64_1_2) 113) :: (sb bp1 #[(.slice a1_0 x1.Points.length n1_0), (.slice a1_1 x1.Multipliers.length n1_1), (.slice a1_2 x1.Penalties.length n1_2), (.slice (some ⟨b155, 0, none⟩) (r142.set ((x1.Repeats.length : Int) : Int).toNat r64.2.Expr).length n146)] 26) :: e1_0 :: e1_1 :: e1_2 :: (some b155, .cells C163 33 (0, 0)) :: Lf)) => ?_)
          obtain rfl := Aa h154
          exact SA (by kernel_rfl) ⟨F8, (some ⟨b155, 0, none⟩), n146, (some b155, .cells C163 33 (0, 0)), hs168.dr0.dr1, (Si _), fI, hr166⟩
         ·refine Rn #[(.slice a1_0 x1.Points.length n1_0), (.slice a1_1 x1.Multipliers.length n1_1), (.slice a1_2 x1.Penalties.length n1_2), (.slice (some ⟨b155, 0, none⟩) r142.length n146)] hs149 (Si _) (fun w169 hs170 => ?_)
          refine D1 10 ?_
          refine AA.storeRow (l' := [true, true, true, true, true, true, true, true, true, true, true, true, true, true]) (zd := true) (by kernel_rfl) (by kernel_rfl) (ty := 0) (g := none) (by kernel_rfl) rfl (x := (.tmp 45)) (y := (.tmp 41)) (t := 33) (v := (.agg (Ag r64.2.Expr ar64_1_2 nr64_1_2))) (gg := true) (b := b155) (j := ((x1.Repeats.length : Int) : Int).toNat) (C := C156) (T := Ao) (E := 33) (u := r64.2.Expr) rfl rfl (by kernel_rfl) hs170 (k := 7) rfl hr160 hx152' (Bb ⟨ar64_1_2, nr64_1_2, rfl, hbr64_1_2, (Sk hsr64_1_2 ((le84.trans le91).trans le125))⟩) rfl (Si _) (fun _ => by simp) (fun e => by cases e) (fun C171 w172 (hs173 : HS wb Fb w172 F8 ((some b137, .cells ([(vi 0), (vi 0), (.slice none ([] : List Expr).length 0)] : List Value).toArray 33 (0, 0)) :: (sb bp0 (Ad r64.1 ar64_0_0 nr64_0_0) 100) :: (sb b71 (Ay r64.2 ar64_1_2 nr64_1_2) 113) :: (sb bp1 #[(.slice a1_0 x1.Points.length n1_0), (.slice a1_1 x1.Multipliers.length n1_1), (.slice a1_2 x1.Penalties.length n1_2), (.slice (some ⟨b155, 0, none⟩) r142.length n146)] 26) :: e1_0 :: e1_1 :: e1_2 :: (some b155, .cells C171 33 (0, 0)) :: Lf)) hr174 => ?_)
          have hs175 : HS wb Fb w172 F8 ((some b137, .cells ([(vi 0), (vi 0), (.slice none ([] : List Expr).length 0)] : List Value).toArray 33 (0, 0)) :: (sb bp0 (Ad r64.1 ar64_0_0 nr64_0_0) 100) :: (sb b71 (Ay r64.2 ar64_1_2 nr64_1_2) 113) :: (sb bp1 #[(.slice a1_0 x1.Points.length n1_0), (.slice a1_1 x1.Multipliers.length n1_1), (.slice a1_2 x1.Penalties.length n1_2), (.slice (some ⟨b155, 0, none⟩) (r142.set ((x1.Repeats.length : Int) : Int).toNat r64.2.Expr).length n146)] 26) :: e1_0 :: e1_1 :: e1_2 :: (some b155, .cells C171 33 (0, 0)) :: Lf) := by have hq := hs173; simp only [List.length_set] at hq ⊢; exact hq
          obtain rfl := Aa h154
          exact SA (by kernel_rfl) ⟨F8, (some ⟨b155, 0, none⟩), n146, (some b155, .cells C171 33 (0, 0)), hs175.dr0.dr1, (Si _), fI, hr174⟩
        ·refine DBs 33 [(vi 0), (vi 0), (.slice none ([] : List Expr).length 0)] hw129 (Si _) (fun b176 w177 hs178 => ?_)
         have hr180 : Aw Ao 33 F8 (some ⟨b176, 0, none⟩) 1 [({ Op := 0, Value := 0, Kids := ([] : List Expr) } : Expr)] (some b176, .cells ([(vi 0), (vi 0), (.slice none ([] : List Expr).length 0)] : List Value).toArray 33 (0, 0)) := SC ⟨(Bb ⟨none, 0, rfl, Sl, (.inl rfl)⟩), rfl⟩ (by simp)
         refine D1 3 ?_
         refine Sy (l' := [true, true, true, true, true, true, false, true, false, false, false, false, false, false]) (zd := true) (by kernel_rfl) (by kernel_rfl) (dst := (some 39)) (ty := 24) (g := none) (by kernel_rfl) rfl (B1 (t := 24) (x := (.tmp 38)) (b := bp1) (o := 3) (g := false) (s := 1) (C := (AU x1 a1_0 n1_0 a1_1 n1_1 a1_2 n1_2 a1_3 n1_3)) (v := (.slice a1_3 x1.Repeats.length n1_3)) rfl (by kernel_rfl) hs178.at3 rfl rfl rfl) (Bu hs178 (Si _) (by simp) (fun e => by cases e)) ?_
         refine Dv [6] ?_
         refine D1 8 ?_
         obtain ⟨r181, hap182, h183⟩ := bind_some hj135
         refine RS PA hs178 (hr1_3.mono (((((le46.trans le58).trans le68).trans le84).trans le91).trans le125)) (hs178.rd0 hr180) hap182 (Si _) (fun a184 n185 e186 w187 hs188 hr189 => ?_)
         obtain ⟨x190, hx191, h193⟩ := bind_some h183
         obtain ⟨hi192, hx191'⟩ := Ap hx191
         obtain ⟨b194, C195, rfl, rfl, hE198⟩ := SD hr189 hx191'
         have hr199 := hr189
         obtain ⟨ae200_2, ne200_2, hc201, hbe200_2, hse200_2⟩ := (Az (hE198 _ _ hx191'))
         refine Dj 9 hi192 ?_
         refine Dv [11, 12] ?_
         refine DWP.two (i := 10) (j := 13) (by kernel_rfl) ?_ ?_
         ·refine AA.storeRow (l' := [true, true, true, true, true, true, true, true, true, true, true, true, true, false]) (zd := true) (by kernel_rfl) (by kernel_rfl) (ty := 0) (g := none) (by kernel_rfl) rfl (x := (.tmp 45)) (y := (.tmp 41)) (t := 33) (v := (.agg (Ag r64.2.Expr ar64_1_2 nr64_1_2))) (gg := true) (b := b194) (j := ((x1.Repeats.length : Int) : Int).toNat) (C := C195) (T := Ao) (E := 33) (u := r64.2.Expr) rfl rfl (by kernel_rfl) hs188 (k := 7) rfl hr199 hx191' (Bb ⟨ar64_1_2, nr64_1_2, rfl, hbr64_1_2, (Sk hsr64_1_2 ((le84.trans le91).trans le125))⟩) rfl (Si _) (fun _ => by simp) (fun e => by cases e) (fun C202 w203 (hs204 : HS wb Fb w203 F8 ((some b176, .cells ([(vi 0), (vi 0), (.slice none ([] : List Expr).length 0)] : List Value).toArray 33 (0, 0)) :: (sb bp0 (Ad r64.1 ar64_0_0 nr64_0_0) 100) :: (sb b71 (Ay r64.2 ar64_1_2 nr64_1_2) 113) :: (sb bp1 (AU x1 a1_0 n1_0 a1_1 n1_1 a1_2 n1_2 a1_3 n1_3) 26) :: e1_0 :: e1_1 :: e1_2 :: (some b194, .cells C202 33 (0, 0)) :: Lf)) hr205 => ?_)
          refine D1 13 ?_
          refine AA.store (l' := [true, true, true, true, true, true, true, true, true, true, true, true, true, true]) (zd := true) (by kernel_rfl) (by kernel_rfl) (ty := 0) (g := none) (by kernel_rfl) rfl (x := (.tmp 47)) (y := (.tmp 44)) (t := 24) (gg := false) (s := 1) (v := (.slice (some ⟨b194, 0, none⟩) (r181.set ((x1.Repeats.length : Int) : Int).toNat r64.2.Expr).length n185)) (b := bp1) (o := 3) (C := (AU x1 a1_0 n1_0 a1_1 n1_1 a1_2 n1_2 a1_3 n1_3)) rfl (Mn rfl) (by kernel_rfl) hs204 (k := 3) rfl rfl rfl rfl (C' := #[(.slice a1_0 x1.Points.length n1_0), (.slice a1_1 x1.Multipliers.length n1_1), (.slice a1_2 x1.Penalties.length n1_2), (.slice (some ⟨b194, 0, none⟩) (r181.set ((x1.Repeats.length : Int) : Int).toNat r64.2.Expr).length n185)]) rfl (Si _) (by simp) (fun e => by cases e) (fun w206 (hs207 : HS wb Fb w206 F8 ((some b176, .cells ([(vi 0), (vi 0), (.slice none ([] : List Expr).length 0)] : List Value).toArray 33 (0, 0)) :: (sb bp0 (Ad r64.1 ar64_0_0 nr64_0_0) 100) :: (sb b71 (Ay r64.2 ar64_1_2 nr64_1_2) 113) :: (sb bp1 #[(.slice a1_0 x1.Points.length n1_0), (.slice a1_1 x1.Multipliers.length n1_1), (.slice a1_2 x1.Penalties.length n1_2), (.slice (some ⟨b194, 0, none⟩) (r181.set ((x1.Repeats.length : Int) : Int).toNat r64.2.Expr).length n185)] 26) :: e1_0 :: e1_1 :: e1_2 :: (some b194, .cells C202 33 (0, 0)) :: Lf)) => ?_)
          obtain rfl := Aa h193
          exact SA (by kernel_rfl) ⟨F8, (some ⟨b194, 0, none⟩), n185, (some b194, .cells C202 33 (0, 0)), hs207.dr0.dr1, (Si _), fI, hr205⟩
         ·refine Rn #[(.slice a1_0 x1.Points.length n1_0), (.slice a1_1 x1.Multipliers.length n1_1), (.slice a1_2 x1.Penalties.length n1_2), (.slice (some ⟨b194, 0, none⟩) r181.length n185)] hs188 (Si _) (fun w208 hs209 => ?_)
          refine D1 10 ?_
          refine AA.storeRow (l' := [true, true, true, true, true, true, true, true, true, true, true, true, true, true]) (zd := true) (by kernel_rfl) (by kernel_rfl) (ty := 0) (g := none) (by kernel_rfl) rfl (x := (.tmp 45)) (y := (.tmp 41)) (t := 33) (v := (.agg (Ag r64.2.Expr ar64_1_2 nr64_1_2))) (gg := true) (b := b194) (j := ((x1.Repeats.length : Int) : Int).toNat) (C := C195) (T := Ao) (E := 33) (u := r64.2.Expr) rfl rfl (by kernel_rfl) hs209 (k := 7) rfl hr199 hx191' (Bb ⟨ar64_1_2, nr64_1_2, rfl, hbr64_1_2, (Sk hsr64_1_2 ((le84.trans le91).trans le125))⟩) rfl (Si _) (fun _ => by simp) (fun e => by cases e) (fun C210 w211 (hs212 : HS wb Fb w211 F8 ((some b176, .cells ([(vi 0), (vi 0), (.slice none ([] : List Expr).length 0)] : List Value).toArray 33 (0, 0)) :: (sb bp0 (Ad r64.1 ar64_0_0 nr64_0_0) 100) :: (sb b71 (Ay r64.2 ar64_1_2 nr64_1_2) 113) :: (sb bp1 #[(.slice a1_0 x1.Points.length n1_0), (.slice a1_1 x1.Multipliers.length n1_1), (.slice a1_2 x1.Penalties.length n1_2), (.slice (some ⟨b194, 0, none⟩) r181.length n185)] 26) :: e1_0 :: e1_1 :: e1_2 :: (some b194, .cells C210 33 (0, 0)) :: Lf)) hr213 => ?_)
          have hs214 : HS wb Fb w211 F8 ((some b176, .cells ([(vi 0), (vi 0), (.slice none ([] : List Expr).length 0)] : List Value).toArray 33 (0, 0)) :: (sb bp0 (Ad r64.1 ar64_0_0 nr64_0_0) 100) :: (sb b71 (Ay r64.2 ar64_1_2 nr64_1_2) 113) :: (sb bp1 #[(.slice a1_0 x1.Points.length n1_0), (.slice a1_1 x1.Multipliers.length n1_1), (.slice a1_2 x1.Penalties.length n1_2), (.slice (some ⟨b194, 0, none⟩) (r181.set ((x1.Repeats.length : Int) : Int).toNat r64.2.Expr).length n185)] 26) :: e1_0 :: e1_1 :: e1_2 :: (some b194, .cells C210 33 (0, 0)) :: Lf) := by have hq := hs212; simp only [List.length_set] at hq ⊢; exact hq
          obtain rfl := Aa h193
          exact SA (by kernel_rfl) ⟨F8, (some ⟨b194, 0, none⟩), n185, (some b194, .cells C210 33 (0, 0)), hs214.dr0.dr1, (Si _), fI, hr213⟩
       ·rintro f w130 ⟨F9, aj133_0, nj133_0, ej133_0, hs131, le132, ⟨_, rfl⟩, hrj133_0⟩
        refine Ac ?_
        refine Rt ?_
        refine Ae ?_
        obtain rfl := Aa h136
        exact ReP [] hs131 ((((((le46.trans le58).trans le68).trans le84).trans le91).trans le125).trans le132) ⟨ar64_0_0, nr64_0_0, a1_0, n1_0, e1_0, a1_1, n1_1, e1_1, a1_2, n1_2, e1_2, aj133_0, nj133_0, ej133_0, rfl, rfl, hbr64_0_0, (Sk hsr64_0_0 (((le84.trans le91).trans le125).trans le132)), (hr1_0.mono ((((((le46.trans le58).trans le68).trans le84).trans le91).trans le125).trans le132)), (hr1_1.mono ((((((le46.trans le58).trans le68).trans le84).trans le91).trans le125).trans le132)), (hr1_2.mono ((((((le46.trans le58).trans le68).trans le84).trans le91).trans le125).trans le132)), hrj133_0⟩
      ·rintro b215 F10 w216 rfl hs217 le218
       have h219 := Bj h120
       refine Am ?_
       refine Am ?_
       have hs221 := hs217.dr0.dr0.dr0.dr0.dr0
       obtain rfl := Aa h219
       exact Cj hs221.dr0 (((((le46.trans le58).trans le68).trans le84).trans le91).trans le218)
     ·rintro c f w223 ⟨hd226, b222, F11, rfl, rfl, hs224, le225⟩
      have h227 := Bj h98
      refine Am ?_
      refine Am ?_
      obtain rfl := Aa h227
      exact ⟨hd226, .inr ⟨_, F11, rfl, rfl, hs224, ((((le46.trans le58).trans le68).trans le84).trans le225)⟩⟩
    ·rintro b228 F12 w229 rfl hs230 le231
     have h232 := Bj h79
     refine Am ?_
     refine Am ?_
     have hs234 := hs230.dr0.dr0.dr0.dr0.dr0
     obtain rfl := Aa h232
     exact Cj hs234.dr0.dr0 (((le46.trans le58).trans le68).trans le231)
   ·rintro b235 F13 w236 rfl hs237 le238
    have h239 := Bj h63
    refine Am ?_
    refine Am ?_
    have hs241 := hs237.dr0.dr0.dr0.dr0.dr0
    obtain rfl := Aa h239
    exact Cj hs241.dr0 ((le46.trans le58).trans le238)
  ·rintro b242 F14 w243 rfl hs244 le245
   have h246 := Bj h53
   refine Am ?_
   refine Am ?_
   have hs248 := hs244.dr0.dr0.dr0.dr0.dr0
   obtain rfl := Aa h246
   exact Cj hs248.dr0 (le46.trans le245)
 ·refine Sc ?_
  refine Ac ?_
  refine Sq ?_
  refine NZ (L := ((sb bp0 (Ad r41.1 ar41_0_0 nr41_0_0) 100) :: (sb b35 (Bd x21) 97) :: (sb bp1 (AU x1 a1_0 n1_0 a1_1 n1_1 a1_2 n1_2 a1_3 n1_3) 26) :: e1_0 :: e1_1 :: e1_2 :: e1_3 :: Lf)) hs45 rfl (fun f249 w250 e251 b252 hs253 hp254 h255 hkeep => ?_)
  have h256 : f249.d = [] := (hkeep.1).trans rfl
  have h257 : f249 0 = (pt bp0 0) := (hkeep.2.1).trans rfl
  have h258 : f249 4 = (pt b35 0) := (hkeep.2.2).trans rfl
  clear hkeep
  have hs259 : HS wb Fb w250 F1 (e251 :: (sb bp0 (Ad r41.1 ar41_0_0 nr41_0_0) 100) :: (sb b35 (Bd x21) 97) :: (sb bp1 (AU x1 a1_0 n1_0 a1_1 n1_1 a1_2 n1_2 a1_3 n1_3) 26) :: e1_0 :: e1_1 :: e1_2 :: e1_3 :: Lf) := hs253
  refine Ac ?_
  refine Sq (Rg [0, 1, 2, 3, 4, 5, 6, 7, 8] ?_)
  refine V 60 167 (mv 6 (.map (some b252)) h255) ?_
  refine V 61 0 (fa 97 4 2 2 1 b35 0 2 h258) ?_
  refine Ld hs259.at2 ?_
  refine Sp h50 (fun hb260 h261 => ?_) (fun hb260 h262 => ?_)
  ·refine V 63 168 (MY (mt := 167) (k := 9) (vt := 166) (m := (.tmp 60)) (x := (.tmp 62)) rfl rfl (by kernel_rfl) (by kernel_rfl) (hs259.ownAt' (k := 0) rfl) hp254 (OW hb260)) ?_
   refine Vs 5 ?_
   refine Nss ?_
   refine Sq (Rg [0, 1, 2, 3, 4, 5, 6, 7, 8] ?_)
   refine Vs 3 ?_
   refine Vg 69 95 2 false 68 rfl (mv 0 (pt bp0 0) h257) ?_
   refine Vg 70 0 2 false 68 rfl (fa 97 4 2 2 1 b35 0 2 h258) ?_
   refine Vg 71 9 2 false 68 rfl (ld 9 70 b35 2 false 1 (.string ⟨(x21.text_).toArray⟩) hs259.at2) ?_
   have hs263 := hs259.pk7.pk7.pk7.pk7.pk7
   obtain ⟨r264, hr265, h266⟩ := bind_some h261
   refine RWP.callB (dst := (some 72)) (ty := 4) (g := (some (2, false))) (by kernel_rfl) (N5 (d := 68) (by kernel_rfl) rfl rfl) (f0 := (.func 80)) (aos := #[(.tmp 69), (.tmp 71)]) (ats := #[95, 9]) (fid := 80) (first := #[]) (cap := #[]) (args := [(pt bp0 0), (.string ⟨(x21.text_).toArray⟩)]) rfl AH rfl (AK N bp0 r41.1 ar41_0_0 nr41_0_0 hbr41_0_0 hsr41_0_0 x21.text_ hs263.pk7.pk6.pk7 _ hr265) ?_
   rintro _ F15 w267 _ hs268 le269 ⟨ar264_0_0, nr264_0_0, rfl, rfl, hbr264_0_0, hsr264_0_0⟩
   refine Vg 73 4 2 false 68 rfl (Mf (t := 4) (x := (.tmp 72)) (a := r264.2) rfl) ?_
   refine Pk0 (rfl : false = false) ?_
   refine Nt ?_
   refine Cd h266 (fun hb271 h272 => ?_) (fun hb271 h273 => ?_)
   ·refine Rg [0, 1, 2, 3] ?_
    refine V 75 95 (mv 0 (pt bp0 0) h257) ?_
    refine V 76 0 (fa 97 4 1 1 1 b35 0 1 h258) ?_
    refine Ld hs268.at2 ?_
    obtain ⟨r274, hr275, h276⟩ := bind_some h272
    refine CP AP (AW N bp0 r264.1 ar264_0_0 nr264_0_0 hbr264_0_0 hsr264_0_0 60 x21.at_ hs268 _ hr275) ?_ ?_
    ·rintro _ _ _ _ _ rfl _ _ _; cases hr275
    ·rintro b279 F17 w280 rfl hs281 le282
     have h283 := Bj h276
     refine Am ?_
     have hs285 := hs281.dr0.dr0.dr0.dr0.dr0
     obtain rfl := Aa h283
     exact ⟨h256, .inr ⟨_, F17, rfl, rfl, hs285.dr0.dr0, ((le46.trans le269).trans le282)⟩⟩
   ·refine Sc ?_
    refine Ac ?_
    refine Sq (Rg [0, 1] ?_)
    refine V 79 95 (mv 0 (pt bp0 0) h257) ?_
    obtain ⟨r286, hr287, h288⟩ := bind_some h273
    refine CP A5 (Ba N bp0 r264.1 ar264_0_0 nr264_0_0 hbr264_0_0 hsr264_0_0 (([58] : SF)) hs268 _ hr287) ?_ ?_
    ·rintro r289 _ F18 w291 _ rfl hs292 le293 ⟨ar289_0_0, nr289_0_0, rfl, rfl, hbr289_0_0, hsr289_0_0⟩
     have h295 := BM h288
     refine Nss (Rg [0, 1, 2, 3] ?_)
     refine V 81 95 (mv 0 (pt bp0 0) h257) ?_
     obtain ⟨r296, hr297, h298⟩ := bind_some h295
     refine CP BR (BX N (hG.mono ((le46.trans le269).trans le293)) bp0 r289 ar289_0_0 nr289_0_0 hbr289_0_0 hsr289_0_0 hs292 _ hr297) ?_ ?_
     ·rintro r299 _ F19 w301 _ rfl hs302 le303 ⟨ar299_0_0, nr299_0_0, ar299_1_2, nr299_1_2, rfl, rfl, hbr299_0_0, hsr299_0_0, hbr299_1_2, hsr299_1_2⟩
      have h305 := BM h298
      refine Al' 113 #[(vi 0), (vi 0), (.slice none ([] : List Expr).length 0), (vi 0)] hs302 (fun b306 w307 hs308 => ?_)
      refine St0 (Ay r299.2 ar299_1_2 nr299_1_2) hs308 (fun w309 hs310 => ?_)
      refine Nss (Rg [0, 1] ?_)
      refine V 83 95 (mv 0 (pt bp0 0) h257) ?_
      have hs317 : HS wb Fb w309 F19 (e251 :: (sb b35 (Bd x21) 97) :: (sb bp1 (AU x1 a1_0 n1_0 a1_1 n1_1 a1_2 n1_2 a1_3 n1_3) 26) :: e1_0 :: e1_1 :: e1_2 :: e1_3 :: (sb b306 (Ay r299.2 ar299_1_2 nr299_1_2) 113) :: (sb bp0 (Ad r299.1 ar299_0_0 nr299_0_0) 100) :: Lf) := hs310.pm [2, 3, 4, 5, 6, 7, 8, 0, 1]
      have hs318 : HS wb Fb w309 F19 ((sb bp0 (Ad r299.1 ar299_0_0 nr299_0_0) 100) :: (sb b306 (Ay r299.2 ar299_1_2 nr299_1_2) 113) :: e251 :: (sb b35 (Bd x21) 97) :: (sb bp1 (AU x1 a1_0 n1_0 a1_1 n1_1 a1_2 n1_2 a1_3 n1_3) 26) :: e1_0 :: e1_1 :: e1_2 :: e1_3 :: Lf) := hs317.pk7.pick (k := 8) rfl
      obtain ⟨r319, hr320, h321⟩ := bind_some h305
      refine CP A5 (Ba N bp0 r299.1 ar299_0_0 nr299_0_0 hbr299_0_0 hsr299_0_0 (([61, 62] : SF)) hs318 _ hr320) ?_ ?_
      ·rintro r322 _ F20 w324 _ rfl hs325 le326 ⟨ar322_0_0, nr322_0_0, rfl, rfl, hbr322_0_0, hsr322_0_0⟩
       have h328 := BM h321
       refine Nss (Rg [0, 1, 2, 3] ?_)
       refine V 85 95 (mv 0 (pt bp0 0) h257) ?_
       obtain ⟨r329, hr330, h331⟩ := bind_some h328
       refine CP BR (BX N (hG.mono ((((le46.trans le269).trans le293).trans le303).trans le326)) bp0 r322 ar322_0_0 nr322_0_0 hbr322_0_0 hsr322_0_0 hs325 _ hr330) ?_ ?_
       ·rintro r332 _ F21 w334 _ rfl hs335 le336 ⟨ar332_0_0, nr332_0_0, ar332_1_2, nr332_1_2, rfl, rfl, hbr332_0_0, hsr332_0_0, hbr332_1_2, hsr332_1_2⟩
        have h338 := BM h331
        refine Al' 113 #[(vi 0), (vi 0), (.slice none ([] : List Expr).length 0), (vi 0)] hs335 (fun b339 w340 hs341 => ?_)
        refine St0 (Ay r332.2 ar332_1_2 nr332_1_2) hs341 (fun w342 hs343 => ?_)
        refine Nss (Rg [0, 1] ?_)
        refine V 87 95 (mv 0 (pt bp0 0) h257) ?_
        have hs353 : HS wb Fb w342 F21 ((sb bp0 (Ad r332.1 ar332_0_0 nr332_0_0) 100) :: (sb b339 (Ay r332.2 ar332_1_2 nr332_1_2) 113) :: (sb b306 (Ay r299.2 ar299_1_2 nr299_1_2) 113) :: e251 :: (sb b35 (Bd x21) 97) :: (sb bp1 (AU x1 a1_0 n1_0 a1_1 n1_1 a1_2 n1_2 a1_3 n1_3) 26) :: e1_0 :: e1_1 :: e1_2 :: e1_3 :: Lf) := hs343.pm [1, 0, 2, 3, 4, 5, 6, 7, 8, 9]
        obtain ⟨r354, hr355, h356⟩ := bind_some h338
        refine CP DE (Ea N bp0 r332.1 ar332_0_0 nr332_0_0 hbr332_0_0 hsr332_0_0 hs353 _ hr355) ?_ ?_
        ·rintro r357 _ F22 w359 _ rfl hs360 le361 ⟨rfl, rfl⟩
         have h363 := BM h356
         refine Nss ?_
         obtain ⟨j369, hj375, h376⟩ := bind_some h363
         refine RDP 7 7 [(sb bp0 (Ad r332.1 ar332_0_0 nr332_0_0) 100), (sb b339 (Ay r332.2 ar332_1_2 nr332_1_2) 113), (sb b306 (Ay r299.2 ar299_1_2 nr299_1_2) 113), e251, (sb b35 (Bd x21) 97), (sb bp1 (AU x1 a1_0 n1_0 a1_1 n1_1 a1_2 n1_2 a1_3 n1_3) 26), e1_0, e1_1, e1_2, e1_3] [] hs360 (fun c d w => d = [] /\ ∃ (b : Ah) (Fp : Mem), j369 = .inl b /\ c = [{ v := (.iface 158 (.agg (AL b))), recovered := false }] /\ HS wb Fb w Fp Lf /\ Sh F22 Fp) (fun f w => ∃ (J377 : Unit), j369 = .inr J377 /\ ∃ (F23 : Mem), HS wb Fb w F23 ((sb bp0 (Ad r332.1 ar332_0_0 nr332_0_0) 100) :: (sb b339 (Ay r332.2 ar332_1_2 nr332_1_2) 113) :: (sb b306 (Ay r299.2 ar299_1_2 nr299_1_2) 113) :: (sb bp1 (AU x1 a1_0 n1_0 a1_1 n1_1 a1_2 n1_2 a1_3 n1_3) 26) :: e1_0 :: e1_1 :: e1_2 :: e1_3 :: Lf) /\ Sh F22 F23 /\ FI f [] [(0, (pt bp0 0)), (7, (pt bp1 0)), (9, (pt b306 0)), (10, (pt b339 0))]) (fun wd364 hw365 => ?_) ?_ ?_
         ·refine Dt 0 89 95 _ (fun _ hq => mv 0 (pt bp0 0) h257) ?_
          refine Dv [1, 2] ?_
          refine Dl 3 (fun _ hq => (hq.1.2 5 _ _ rfl)) ?_
          refine Dt 4 93 0 (pt b35 1) (fun _ hq => fa 97 4 1 1 1 b35 0 1 h258) ?_
          refine Dl 5 (fun _ hq => (hq.1.2 4 _ _ rfl)) ?_
          refine D1 6 ?_
          obtain ⟨r378, hr379, h380⟩ := bind_some hj375
          refine DCP Fw (FS N bp0 r332.1 ar332_0_0 nr332_0_0 hbr332_0_0 (Sk hsr332_0_0 le361) x1.Points a1_0 n1_0 x21.at_ hw365 _ hr379) ?_ ?_
          ·rintro r381 _ F24 w383 _ rfl hs384 le385 ⟨rfl, rfl⟩
           have h387 := BM h380
           refine ⟨Bu hs384 le385 (by simp) (zdT (by kernel_rfl)), ?_⟩
           obtain rfl := Aa h387
           exact SA (by kernel_rfl) ⟨_, rfl, F24, hs384.dr3.dr3, le385, (fJ ⟨h257, rfl, rfl, rfl, trivial⟩ (hd := h256))⟩
          ·rintro b388 F25 w389 rfl hs390 le391
           have h392 := Bj h380
           obtain rfl := Aa h392
           have hs394 := hs390.dr0.dr0.dr0.dr0.dr0
           exact ⟨h256, _, _, rfl, rfl, hs394.dr0.dr0.dr0.dr0, le391⟩
         ·rintro f w366 ⟨J377, rfl, F23, hs367, le368, ⟨_, rfl⟩⟩
          have h395 := BM h376
          refine Ac ?_
          refine Sq (Rg [0, 1, 2] ?_)
          refine Vs 1 ?_
          refine Ld hs367.at2 ?_
          obtain ⟨r396, hr397, h398⟩ := bind_some h395
          refine CP BW (B5 N bp0 r332.1 ar332_0_0 nr332_0_0 hbr332_0_0 (Sk hsr332_0_0 (le361.trans le368)) r299.2 ar299_1_2 nr299_1_2 hbr299_1_2 (Sk hsr299_1_2 (((le326.trans le336).trans le361).trans le368)) 2 hs367 _ hr397) ?_ ?_
          ·rintro r399 _ F26 w401 _ rfl hs402 le403 ⟨rfl, rfl⟩
           have h405 := BM h398
           refine Nss (Rg [0, 1, 2] ?_)
           refine Vs 1 ?_
           refine Ld hs402.at1 ?_
           obtain ⟨r406, hr407, h408⟩ := bind_some h405
           refine CP BW (B5 N bp0 r332.1 ar332_0_0 nr332_0_0 hbr332_0_0 (Sk hsr332_0_0 ((le361.trans le368).trans le403)) r332.2 ar332_1_2 nr332_1_2 hbr332_1_2 (Sk hsr332_1_2 ((le361.trans le368).trans le403)) 1 hs402 _ hr407) ?_ ?_
           ·rintro r409 _ F27 w411 _ rfl hs412 le413 ⟨rfl, rfl⟩
            have h415 := BM h408
            refine Nt ?_
            obtain ⟨j421, hj423, h424⟩ := bind_some h415
            refine RD 12 13 [(sb bp0 (Ad r332.1 ar332_0_0 nr332_0_0) 100), (sb b339 (Ay r332.2 ar332_1_2 nr332_1_2) 113), (sb b306 (Ay r299.2 ar299_1_2 nr299_1_2) 113), e1_1, e1_2, e1_3] [(sb bp1 (AU x1 a1_0 n1_0 a1_1 n1_1 a1_2 n1_2 a1_3 n1_3) 26)] hs412 (fun f w => ∃ (F28 : Mem) (aj421_0 : SG) (nj421_0 : Nat) (ej421_0 : Option Nat × Obj), HS wb Fb w F28 ((sb bp0 (Ad r332.1 ar332_0_0 nr332_0_0) 100) :: (sb bp1 #[(.slice aj421_0 j421.length nj421_0), (.slice a1_1 x1.Multipliers.length n1_1), (.slice a1_2 x1.Penalties.length n1_2), (.slice a1_3 x1.Repeats.length n1_3)] 26) :: ej421_0 :: e1_1 :: e1_2 :: e1_3 :: Lf) /\ Sh F27 F28 /\ FI f [] [] /\ Aw As 56 F28 aj421_0 nj421_0 j421 ej421_0) (fun wd416 hw417 => ?_) ?_
            ·refine Dv [0, 1, 2] ?_
             refine Dl 3 (fun _ hq => ((hq.2 rfl).2 0 _ _ rfl)) ?_
             refine Dv [4] ?_
             refine Dl 5 (fun _ hq => (hq.1.2 2 _ _ rfl)) ?_
             refine Dv [6] ?_
             refine Dl 7 (fun _ hq => (hq.1.2 1 _ _ rfl)) ?_
             refine Dv [8] ?_
             refine D1 9 ?_
             refine DBs 56 [(vi r299.2.Expr.Op), (vi r299.2.Expr.Value), (.slice ar299_1_2 r299.2.Expr.Kids.length nr299_1_2), (vi r332.2.Expr.Op), (vi r332.2.Expr.Value), (.slice ar332_1_2 r332.2.Expr.Kids.length nr332_1_2)] hw417 (Si _) (fun b425 w426 hs427 => ?_)
             have hr429 : Aw As 56 F27 (some ⟨b425, 0, none⟩) 1 [({ When := r299.2.Expr, Then := r332.2.Expr } : Clause)] (some b425, .cells ([(vi r299.2.Expr.Op), (vi r299.2.Expr.Value), (.slice ar299_1_2 r299.2.Expr.Kids.length nr299_1_2), (vi r332.2.Expr.Op), (vi r332.2.Expr.Value), (.slice ar332_1_2 r332.2.Expr.Kids.length nr332_1_2)] : List Value).toArray 56 (0, 0)) := SC ⟨⟨ar299_1_2, nr299_1_2, ar332_1_2, nr332_1_2, rfl, hbr299_1_2, (Sk hsr299_1_2 (((((le326.trans le336).trans le361).trans le368).trans le403).trans le413)), hbr332_1_2, (Sk hsr332_1_2 (((le361.trans le368).trans le403).trans le413))⟩, rfl⟩ (by simp)
             refine D1 10 ?_
             obtain ⟨r430, hap431, h432⟩ := bind_some hj423
             refine Sa Oy hs427 (hr1_0.mono (((((((((le46.trans le269).trans le293).trans le303).trans le326).trans le336).trans le361).trans le368).trans le403).trans le413)) (hs427.rd0 hr429) hap431 (Si _) (fun a433 n434 e435 w436 hs437 hr438 => ?_)
             refine Dv [11] ?_
             refine D1 12 ?_
             refine R8 #[(.slice a433 r430.length n434), (.slice a1_1 x1.Multipliers.length n1_1), (.slice a1_2 x1.Penalties.length n1_2), (.slice a1_3 x1.Repeats.length n1_3)] hs437 (Si _) (fun w439 hs440 => ?_)
             obtain rfl := Aa h432
             exact SA (by kernel_rfl) ⟨F27, a433, n434, e435, hs440.dr0.dr1.dr1, (Si _), fI, hr438⟩
            ·rintro f w418 ⟨F28, aj421_0, nj421_0, ej421_0, hs419, le420, ⟨_, rfl⟩, hrj421_0⟩
             obtain rfl := Aa h424
             exact ReP [] hs419 ((((((((((le46.trans le269).trans le293).trans le303).trans le326).trans le336).trans le361).trans le368).trans le403).trans le413).trans le420) ⟨ar332_0_0, nr332_0_0, aj421_0, nj421_0, ej421_0, a1_1, n1_1, e1_1, a1_2, n1_2, e1_2, a1_3, n1_3, e1_3, rfl, rfl, hbr332_0_0, (Sk hsr332_0_0 ((((le361.trans le368).trans le403).trans le413).trans le420)), hrj421_0, (hr1_1.mono ((((((((((le46.trans le269).trans le293).trans le303).trans le326).trans le336).trans le361).trans le368).trans le403).trans le413).trans le420)), (hr1_2.mono ((((((((((le46.trans le269).trans le293).trans le303).trans le326).trans le336).trans le361).trans le368).trans le403).trans le413).trans le420)), (hr1_3.mono ((((((((((le46.trans le269).trans le293).trans le303).trans le326).trans le336).trans le361).trans le368).trans le403).trans le413).trans le420))⟩
           ·rintro b441 F29 w442 rfl hs443 le444
            have h445 := Bj h408
            refine Am ?_
            have hs447 := hs443.dr0.dr0.dr0.dr0.dr0
            obtain rfl := Aa h445
            exact Cj hs447.dr0.dr0 (((((((((le46.trans le269).trans le293).trans le303).trans le326).trans le336).trans le361).trans le368).trans le403).trans le444)
          ·rintro b448 F30 w449 rfl hs450 le451
           have h452 := Bj h398
           refine Am ?_
           have hs454 := hs450.dr0.dr0.dr0.dr0.dr0
           obtain rfl := Aa h452
           exact Cj hs454.dr0.dr0 ((((((((le46.trans le269).trans le293).trans le303).trans le326).trans le336).trans le361).trans le368).trans le451)
         ·rintro c f w456 ⟨hd459, b455, F31, rfl, rfl, hs457, le458⟩
          have h460 := Bj h376
          refine Am ?_
          obtain rfl := Aa h460
          exact ⟨hd459, .inr ⟨_, F31, rfl, rfl, hs457, (((((((le46.trans le269).trans le293).trans le303).trans le326).trans le336).trans le361).trans le458)⟩⟩
        ·rintro b461 F32 w462 rfl hs463 le464
         have h465 := Bj h356
         refine Am ?_
         have hs467 := hs463.dr0.dr0.dr0.dr0.dr0
         obtain rfl := Aa h465
         exact ⟨h256, .inr ⟨_, F32, rfl, rfl, hs467.dr0.dr0.dr0.dr0, ((((((le46.trans le269).trans le293).trans le303).trans le326).trans le336).trans le464)⟩⟩
       ·rintro b468 F33 w469 rfl hs470 le471
        have h472 := Bj h331
        refine Am ?_
        have hs474 := hs470.dr0.dr0.dr0.dr0.dr0
        obtain rfl := Aa h472
        exact ⟨h256, .inr ⟨_, F33, rfl, rfl, hs474.dr0.dr0.dr0, (((((le46.trans le269).trans le293).trans le303).trans le326).trans le471)⟩⟩
      ·rintro b475 F34 w476 rfl hs477 le478
       have h479 := Bj h321
       refine Am ?_
       have hs481 := hs477.dr0.dr0.dr0.dr0.dr0
       obtain rfl := Aa h479
       exact ⟨h256, .inr ⟨_, F34, rfl, rfl, hs481.dr0.dr0.dr0, ((((le46.trans le269).trans le293).trans le303).trans le478)⟩⟩
     ·rintro b482 F35 w483 rfl hs484 le485
      have h486 := Bj h298
      refine Am ?_
      have hs488 := hs484.dr0.dr0.dr0.dr0.dr0
      obtain rfl := Aa h486
      exact ⟨h256, .inr ⟨_, F35, rfl, rfl, hs488.dr0.dr0, (((le46.trans le269).trans le293).trans le485)⟩⟩
    ·rintro b489 F36 w490 rfl hs491 le492
     have h493 := Bj h288
     refine Am ?_
     have hs495 := hs491.dr0.dr0.dr0.dr0.dr0
     obtain rfl := Aa h493
     exact ⟨h256, .inr ⟨_, F36, rfl, rfl, hs495.dr0.dr0, ((le46.trans le269).trans le492)⟩⟩
  ·cases h262
def FK (N : Nat) (x0 : Ab) (z0 : Be) : (List Ar × Int × List Clause × List Clause × List Clause × List Expr) -> Option (Bi (Ah ⊕ (Ab × Be)) (List Ar × Int × List Clause × List Clause × List Clause × List Expr)) := fun s24 =>
 ((idx s24.1 0).bind fun x42 => (bif (x42.kind_ != 0) then ((Au N ({ l_ := s24.1, open_ := s24.2.1 } : Ab) ([10] : SF)).bind fun r59 => (bif (!r59.2) then ((E4 N r59.1 ({ Points := s24.2.2.1, Multipliers := s24.2.2.2.1, Penalties := s24.2.2.2.2.1, Repeats := s24.2.2.2.2.2 } : Be)).bind fun r69 => sk r69 (fun b80 => some (.ret (.inl b80))) (fun r72 => some (.next (r72.1.l_, r72.1.open_, r72.2.Points, r72.2.Multipliers, r72.2.Penalties, r72.2.Repeats)))) else some (.next (r59.1.l_, r59.1.open_, s24.2.2.1, s24.2.2.2.1, s24.2.2.2.2.1, s24.2.2.2.2.2)))) else some (.done (s24.1, s24.2.1, s24.2.2.1, s24.2.2.2.1, s24.2.2.2.2.1, s24.2.2.2.2.2))))
def HJ (N : Nat) (x0 : Ab) (z0 : Be) : Option (Ah ⊕ (Ab × Be)) :=
 ((A0 (FK N x0 z0) N (x0.l_, x0.open_, z0.Points, z0.Multipliers, z0.Penalties, z0.Repeats)).bind fun o => o.k (fun r => some r) (fun s31 => some (.inr (({ l_ := s31.1, open_ := s31.2.1 } : Ab), ({ Points := s31.2.2.1, Multipliers := s31.2.2.2.1, Penalties := s31.2.2.2.2.1, Repeats := s31.2.2.2.2.2 } : Be)))))
theorem Jw : Al Tryz.prog 79 := fun _ _ => by kernel_rfl
theorem J8 (N : Nat) {wb w0 : World} {Fb F0 : Mem} {Lf : Own} (hG : B0 F0) (bp0 : Nat) (x0 : Ab) (a0_0 : SG) (n0_0 : Nat) (hb0_0 : LC x0.l_.length n0_0) (hs0_0 : SlA Af F0 a0_0 x0.l_) (bz0 : Nat) (z0 : Be) (az0_0 : SG) (nz0_0 : Nat) (ez0_0 : Option Nat × Obj) (az0_1 : SG) (nz0_1 : Nat) (ez0_1 : Option Nat × Obj) (az0_2 : SG) (nz0_2 : Nat) (ez0_2 : Option Nat × Obj) (az0_3 : SG) (nz0_3 : Nat) (ez0_3 : Option Nat × Obj) (hrz0_0 : Aw As 56 F0 az0_0 nz0_0 z0.Points ez0_0) (hrz0_1 : Aw As 56 F0 az0_1 nz0_1 z0.Multipliers ez0_1) (hrz0_2 : Aw As 56 F0 az0_2 nz0_2 z0.Penalties ez0_2) (hrz0_3 : Aw Ao 33 F0 az0_3 nz0_3 z0.Repeats ez0_3) (hs0 : HS wb Fb w0 F0 ((sb bp0 (Ad x0 a0_0 n0_0) 100) :: (sb bz0 (AU z0 az0_0 nz0_0 az0_1 nz0_1 az0_2 nz0_2 az0_3 nz0_3) 26) :: ez0_0 :: ez0_1 :: ez0_2 :: ez0_3 :: Lf)) (r : (Ah ⊕ (Ab × Be))) (h : HJ N x0 z0 = some r) :
  Calls Tryz.prog 79 ([(pt bp0 0), (pt bz0 0)] : List Value).toArray w0 (BB wb Fb F0 Lf r (fun b => (.iface 158 (.agg (AL b)))) fun a F' v L' => ∃ (aq0_0 : SG) (nq0_0 : Nat) (aq1_0 : SG) (nq1_0 : Nat) (eq1_0 : Option Nat × Obj) (aq1_1 : SG) (nq1_1 : Nat) (eq1_1 : Option Nat × Obj) (aq1_2 : SG) (nq1_2 : Nat) (eq1_2 : Option Nat × Obj) (aq1_3 : SG) (nq1_3 : Nat) (eq1_3 : Option Nat × Obj), v = (.tuple #[]) /\ L' = (sb bp0 (Ad a.1 aq0_0 nq0_0) 100) :: (sb bz0 (AU a.2 aq1_0 nq1_0 aq1_1 nq1_1 aq1_2 nq1_2 aq1_3 nq1_3) 26) :: eq1_0 :: eq1_1 :: eq1_2 :: eq1_3 :: Lf /\ LC a.1.l_.length nq0_0 /\ SlA Af F' aq0_0 a.1.l_ /\ Aw As 56 F' aq1_0 nq1_0 a.2.Points eq1_0 /\ Aw As 56 F' aq1_1 nq1_1 a.2.Multipliers eq1_1 /\ Aw As 56 F' aq1_2 nq1_2 a.2.Penalties eq1_2 /\ Aw Ao 33 F' aq1_3 nq1_3 a.2.Repeats eq1_3) := by
 refine Go 16 Tryz.func79 ?_
 obtain ⟨o21, ho22, h23⟩ := bind_some h
 refine So (fun f w => ∃ (s31 : (List Ar × Int × List Clause × List Clause × List Clause × List Expr)) (F2 : Mem) (as31_0 : SG) (ns31_0 : Nat) (as31_2 : SG) (ns31_2 : Nat) (es31_2 : Option Nat × Obj) (as31_3 : SG) (ns31_3 : Nat) (es31_3 : Option Nat × Obj) (as31_4 : SG) (ns31_4 : Nat) (es31_4 : Option Nat × Obj) (as31_5 : SG) (ns31_5 : Nat) (es31_5 : Option Nat × Obj), o21 = .done s31 /\ HS wb Fb w F2 ((sb bp0 #[(.slice as31_0 s31.1.length ns31_0), (vi s31.2.1)] 100) :: (sb bz0 #[(.slice as31_2 s31.2.2.1.length ns31_2), (.slice as31_3 s31.2.2.2.1.length ns31_3), (.slice as31_4 s31.2.2.2.2.1.length ns31_4), (.slice as31_5 s31.2.2.2.2.2.length ns31_5)] 26) :: es31_2 :: es31_3 :: es31_4 :: es31_5 :: Lf) /\ Sh F0 F2 /\ FI f [] [] /\ LC s31.1.length ns31_0 /\ SlA Af F2 as31_0 s31.1 /\ Aw As 56 F2 as31_2 ns31_2 s31.2.2.1 es31_2 /\ Aw As 56 F2 as31_3 ns31_3 s31.2.2.2.1 es31_3 /\ Aw As 56 F2 as31_4 ns31_4 s31.2.2.2.2.1 es31_4 /\ Aw Ao 33 F2 as31_5 ns31_5 s31.2.2.2.2.2 es31_5) ?_ ?_
 ·refine Bk ?_
  refine Sg (by kernel_rfl) (fun m f w => ∃ (s24 : (List Ar × Int × List Clause × List Clause × List Clause × List Expr)) (F1 : Mem) (as24_0 : SG) (ns24_0 : Nat) (as24_2 : SG) (ns24_2 : Nat) (es24_2 : Option Nat × Obj) (as24_3 : SG) (ns24_3 : Nat) (es24_3 : Option Nat × Obj) (as24_4 : SG) (ns24_4 : Nat) (es24_4 : Option Nat × Obj) (as24_5 : SG) (ns24_5 : Nat) (es24_5 : Option Nat × Obj), A0 (FK N x0 z0) m s24 = some o21 /\ HS wb Fb w F1 ((sb bp0 #[(.slice as24_0 s24.1.length ns24_0), (vi s24.2.1)] 100) :: (sb bz0 #[(.slice as24_2 s24.2.2.1.length ns24_2), (.slice as24_3 s24.2.2.2.1.length ns24_3), (.slice as24_4 s24.2.2.2.2.1.length ns24_4), (.slice as24_5 s24.2.2.2.2.2.length ns24_5)] 26) :: es24_2 :: es24_3 :: es24_4 :: es24_5 :: Lf) /\ Sh F0 F1 /\ FI f [] [(0, (pt bp0 0)), (1, (pt bz0 0))] /\ LC s24.1.length ns24_0 /\ SlA Af F1 as24_0 s24.1 /\ Aw As 56 F1 as24_2 ns24_2 s24.2.2.1 es24_2 /\ Aw As 56 F1 as24_3 ns24_3 s24.2.2.2.1 es24_3 /\ Aw As 56 F1 as24_4 ns24_4 s24.2.2.2.2.1 es24_4 /\ Aw Ao 33 F1 as24_5 ns24_5 s24.2.2.2.2.2 es24_5) N ⟨(x0.l_, x0.open_, z0.Points, z0.Multipliers, z0.Penalties, z0.Repeats), F0, a0_0, n0_0, az0_0, nz0_0, ez0_0, az0_1, nz0_1, ez0_1, az0_2, nz0_2, ez0_2, az0_3, nz0_3, ez0_3, ho22, hs0, (Si _), fI, hb0_0, hs0_0, hrz0_0, hrz0_1, hrz0_2, hrz0_3⟩ ?_
  rintro m36 f w25 ⟨s24, F1, as24_0, ns24_0, as24_2, ns24_2, es24_2, as24_3, ns24_3, es24_3, as24_4, ns24_4, es24_4, as24_5, ns24_5, es24_5, hit37, hs26, le27, ⟨_, rfl⟩, hbs24_0, hss24_0, hrs24_2, hrs24_3, hrs24_4, hrs24_5⟩
  obtain ⟨m38, fl39, rfl, hb40, hnx41⟩ := AQ hit37
  refine Sq ?_
  refine Sq (Rg [0, 1, 2, 3, 4, 5, 6, 7] ?_)
  refine Vs 3 ?_
  refine Ld hs26.at0 ?_
  obtain ⟨x42, hx43, h45⟩ := bind_some hb40
  obtain ⟨hi44, hx43'⟩ := Ap hx43
  obtain ⟨b46, o47, C48, E49, fz50, rfl, hF52, hE53⟩ := Su hss24_0 hx43'
  have hc55 := hE53 _ _ hx43'
  refine Ix hi44 ?_
  refine Vs 1 ?_
  refine Lx 0 (hs26.pers _ _ hF52) hc55 ?_
  refine Vs 1 ?_
  refine Nt ?_
  refine Cd h45 (fun hb56 h57 => ?_) (fun hb56 h58 => ?_)
  ·refine Sc ?_
   refine Ac ?_
   refine Bk ?_
   refine Sq (Rg [0, 1, 2] ?_)
   refine Vs 1 ?_
   obtain ⟨r59, hr60, h61⟩ := bind_some h57
   refine CB AH (AK N bp0 (({ l_ := s24.1, open_ := s24.2.1 } : Ab)) (some ⟨b46, o47, none⟩) ns24_0 hbs24_0 hss24_0 (([10] : SF)) hs26 _ hr60) ?_
   rintro _ F3 w62 _ hs63 le64 ⟨ar59_0_0, nr59_0_0, rfl, rfl, hbr59_0_0, hsr59_0_0⟩
   refine Vs 1 ?_
   refine Nt ?_
   refine Cd h61 (fun hb66 h67 => ?_) (fun hb66 h68 => ?_)
   ·refine Rg [0, 1] ?_
    refine Vs 1 ?_
    obtain ⟨r69, hr70, h71⟩ := bind_some h67
    refine CP GS (Hw N (hG.mono (le27.trans le64)) bp0 r59.1 ar59_0_0 nr59_0_0 hbr59_0_0 hsr59_0_0 bz0 (({ Points := s24.2.2.1, Multipliers := s24.2.2.2.1, Penalties := s24.2.2.2.2.1, Repeats := s24.2.2.2.2.2 } : Be)) as24_2 ns24_2 es24_2 as24_3 ns24_3 es24_3 as24_4 ns24_4 es24_4 as24_5 ns24_5 es24_5 (hrs24_2.mono le64) (hrs24_3.mono le64) (hrs24_4.mono le64) (hrs24_5.mono le64) hs63 _ hr70) ?_ ?_
    ·rintro r72 _ F4 w74 _ rfl hs75 le76 ⟨ar72_0_0, nr72_0_0, ar72_1_0, nr72_1_0, er72_1_0, ar72_1_1, nr72_1_1, er72_1_1, ar72_1_2, nr72_1_2, er72_1_2, ar72_1_3, nr72_1_3, er72_1_3, rfl, rfl, hbr72_0_0, hsr72_0_0, hrr72_1_0, hrr72_1_1, hrr72_1_2, hrr72_1_3⟩
     have h78 := BM h71
     refine Sd ?_
     refine Aq ?_
     have hn79 := AM h78 hnx41
     exact ⟨m38, Nat.lt_succ_self _, (r72.1.l_, r72.1.open_, r72.2.Points, r72.2.Multipliers, r72.2.Penalties, r72.2.Repeats), F4, ar72_0_0, nr72_0_0, ar72_1_0, nr72_1_0, er72_1_0, ar72_1_1, nr72_1_1, er72_1_1, ar72_1_2, nr72_1_2, er72_1_2, ar72_1_3, nr72_1_3, er72_1_3, hn79, hs75, ((le27.trans le64).trans le76), fI, hbr72_0_0, hsr72_0_0, hrr72_1_0, hrr72_1_1, hrr72_1_2, hrr72_1_3⟩
    ·rintro b80 F5 w81 rfl hs82 le83
     have h84 := Bj h71
     refine AR ?_
     refine Am ?_
     refine AR ?_
     have hret := BJ h84 hnx41
     subst hret
     refine .inr ?_
     obtain rfl := Aa h23
     exact Cj hs82 ((le27.trans le64).trans le83)
   ·refine Sc ?_
    refine Aq ?_
    have hn86 := AM h68 hnx41
    exact ⟨m38, Nat.lt_succ_self _, (r59.1.l_, r59.1.open_, s24.2.2.1, s24.2.2.2.1, s24.2.2.2.2.1, s24.2.2.2.2.2), F3, ar59_0_0, nr59_0_0, as24_2, ns24_2, es24_2, as24_3, ns24_3, es24_3, as24_4, ns24_4, es24_4, as24_5, ns24_5, es24_5, hn86, hs63, (le27.trans le64), fI, hbr59_0_0, hsr59_0_0, (hrs24_2.mono le64), (hrs24_3.mono le64), (hrs24_4.mono le64), (hrs24_5.mono le64)⟩
  ·refine Ex ?_
   refine Av ?_
   refine Av ?_
   refine AE rfl ?_
   have ho87 := AX h58 hnx41
   exact .inl ⟨rfl, (s24.1, s24.2.1, s24.2.2.1, s24.2.2.2.1, s24.2.2.2.2.1, s24.2.2.2.2.2), F1, (some ⟨b46, o47, none⟩), ns24_0, as24_2, ns24_2, es24_2, as24_3, ns24_3, es24_3, as24_4, ns24_4, es24_4, as24_5, ns24_5, es24_5, ho87, hs26, le27, fI, hbs24_0, hss24_0, hrs24_2, hrs24_3, hrs24_4, hrs24_5⟩
 ·rintro f w32 ⟨s31, F2, as31_0, ns31_0, as31_2, ns31_2, es31_2, as31_3, ns31_3, es31_3, as31_4, ns31_4, es31_4, as31_5, ns31_5, es31_5, rfl, hs33, le34, ⟨_, rfl⟩, hbs31_0, hss31_0, hrs31_2, hrs31_3, hrs31_4, hrs31_5⟩
  have h88 := Bo h23
  obtain rfl := Aa h88
  exact ReP [] hs33 le34 ⟨as31_0, ns31_0, as31_2, ns31_2, es31_2, as31_3, ns31_3, es31_3, as31_4, ns31_4, es31_4, as31_5, ns31_5, es31_5, rfl, rfl, hbs31_0, hss31_0, hrs31_2, hrs31_3, hrs31_4, hrs31_5⟩
def O7 : Expr := { Op := 0, Value := 0, Kids := ([] : List Expr) }
def Oj : Bl := { Expr := O7, at_ := 0 }
def Ok : Be := { Points := ([] : List Clause), Multipliers := ([] : List Clause), Penalties := ([] : List Clause), Repeats := ([] : List Expr) }
def Ji {α β : Type} (N : Nat) (s : SF) (run : Ab -> Option (Ah ⊕ α)) (z : β) (f : α -> β) : Option (β × Int × Int) :=
 bif decide ((s.length : Int) > 65536) then some (z, 2, 0) else (Gy N s).bind fun l => (run { l_ := l, open_ := 0 }).bind fun q => sk q (fun b => bif b.e_ != 0 then some (z, b.e_, b.at_) else none) (fun a => some (f a, 0, 0))
def Cu (N : Nat) (x0 : SF) : Option (Expr × Int × Int) := Ji N x0 (fun p => E8 N p Oj) O7 (fun a => a.2.Expr)
def D0 (N : Nat) (x0 : SF) : Option (Be × Int × Int) := Ji N x0 (fun p => HJ N p Ok) Ok (fun a => a.2)
theorem Np {α : Type} {b : Bool} {x y : α} (h : b = true) : (bif b then x else y) = x := by subst h; rfl
theorem L4 {α : Type} {b : Bool} {x y : α} (h : b = false) : (bif b then x else y) = y := by subst h; rfl
theorem EO : Al Tryz.prog 25 := fun _ _ => by kernel_rfl
set_option maxRecDepth 100000 in
theorem Fl (N : Nat) (w0 : World) (F0 : Mem) (hF : SH w0 F0) (hG : B0 F0) (x0 : SF) (r : Expr × Int × Int) (h : Cu N x0 = some r) :
  Calls Tryz.prog 25 ([.string ⟨x0.toArray⟩] : List Value).toArray w0 (AJ w0 F0 fun F' v => ∃ (aq0_2 : SG) (nq0_2 : Nat), v = (.tuple #[(.agg #[(.int .i64 r.1.Op), (.int .i64 r.1.Value), (.slice aq0_2 r.1.Kids.length nq0_2)]), (.int .i64 r.2.1), (.int .i64 r.2.2)]) /\ LC r.1.Kids.length nq0_2 /\ SlA Ao F' aq0_2 r.1.Kids) := by
 have hs0 := Sj hF
 refine ET (n := 21) (c := B8 Tryz.f25) Tryz.func25 (by kernel_rfl) (by kernel_rfl) (by kernel_rfl) ?_
 refine Sq ?_
 refine Rg [0, 1, 2] ?_
 refine Sr (dst := some 2) (ty := 0) (g := none) (by kernel_rfl) rfl (t := 33) (z := .agg #[.int .i64 0, .int .i64 0, .slice none 0 0]) (by kernel_rfl) (C := #[.int .i64 0, .int .i64 0, .slice none 0 0]) rfl hs0 (fun b2 w1 hs1 => ?_)
 refine V 3 27 (AB (x := .const (.int .i64 0)) (v := .int .i64 0) rfl) ?_
 refine V 4 3 (AB (x := .const (.int .i64 0)) (v := .int .i64 0) rfl) ?_
 refine Sd ?_
 refine Ac ?_
 refine Sq ?_
 refine Rg [0] ?_
 refine Sr (dst := some 5) (ty := 0) (g := none) (by kernel_rfl) rfl (t := 113) (z := .agg #[.int .i64 0, .int .i64 0, .slice none 0 0, .int .i64 0]) (by kernel_rfl) (C := #[.int .i64 0, .int .i64 0, .slice none 0 0, .int .i64 0]) rfl hs1 (fun b5 w2 hs2 => ?_)
 refine Sd ?_
 refine Ac ?_
 refine Sq ?_
 refine Rg [0, 1, 2, 3, 4, 5, 6, 7] ?_
 refine V 9 9 (AO (x := .tmp 0) (v := .string ⟨x0.toArray⟩) rfl) ?_
 refine V 10 103 (CQ (fn := .func 85) (first := #[]) (cap := #[.tmp 5]) (fl := []) (cl := [.pointer (some ⟨b5, 0, none⟩)]) rfl rfl) ?_
 obtain ⟨X, hX⟩ : ∃ X : Own, X = [(some b2, .cells #[.int .i64 0, .int .i64 0, .slice none 0 0] 33 (0, 0))] := ⟨_, rfl⟩
 refine Sf (dst := some 11) (ty := 88) (g := none) (by kernel_rfl) rfl (CW (f := .func 78) (aos := #[.tmp 9, .tmp 10]) (ats := #[9, 103]) (g := 78) (first := #[]) (cap := #[]) (args := [.string ⟨x0.toArray⟩, .func (.func 85) #[] #[.pointer (some ⟨b5, 0, none⟩)]]) rfl HL rfl)
  (I5 N hs2 x0 (g := 85) (cap := [.pointer (some ⟨b5, 0, none⟩)]) GY (fun o F' L' => match o with
   | none => ∃ (e : Expr) (at_ : Int) (a : SG) (n : Nat), L' = (some b5, .cells #[.int .i64 e.Op, .int .i64 e.Value, .slice a e.Kids.length n, .int .i64 at_] 113 (0, 0)) :: X /\ LC e.Kids.length n /\ SlA Ao F' a e.Kids /\ some (e, (0 : Int), (0 : Int)) = some r
   | some x => (bif x.e_ != 0 then some (O7, x.e_, x.at_) else none) = some r /\ (L' = X \/ ∃ o, L' = (some b5, o) :: X)) ?_ ?_) ?_
 ·intro hc F'
  unfold Cu Ji at h
  rw [Np hc] at h
  exact ⟨h, .inr ⟨_, by rw [hX]⟩⟩
 ·intro hc
  unfold Cu Ji at h
  rw [L4 hc] at h
  obtain ⟨l, hl, h⟩ := bind_some h
  obtain ⟨q, hq, h⟩ := bind_some h
  refine ⟨l, hl, fun w3 F3 be_ ba_ bp a n le3 hb hsl hs3 => ?_⟩
  have hs4 : HS w0 F0 w3 F3 ((some bp, .cells #[.slice a l.length n, .int .i64 0] 100 (0, 0)) :: (some b5, .cells #[.int .i64 0, .int .i64 0, .slice none 0 0, .int .i64 0] 113 (0, 0)) :: (some ba_, ba 0) :: (some be_, be 0) :: X) := by
   rw [hX]; exact (hs3.pick (k := 3) rfl).pick (k := 1) rfl
  refine (Hy N (hG.mono (hs3.le)) bp { l_ := l, open_ := 0 } a n hb hsl b5 Oj none 0 Sl (.inl rfl) hs4 q hq).mono ?_
  rintro e w4 (⟨a1, F4, v, L', rfl, rfl, hs5, le5, aq, nq, az, nz, rfl, rfl, h1, h2, h3, h4⟩ | ⟨x, F4, rfl, rfl, hs5, le5⟩)
  ·exact .inl ⟨_, F4, _, rfl, ((hs5.drop 0).pick (k := 2) rfl).pick (k := 2) rfl, le5, _, _, az, nz, rfl, h3, h4, h⟩
  ·exact .inr ⟨x, F4, _, rfl, hs5, le5, h, .inl rfl⟩
 ·rintro e w5 ⟨o, F5, L5, rfl, hs5, le5, hK⟩
  cases o with
  | none =>
   obtain ⟨e, at_, a, n, rfl, hb, hsl, hr⟩ := hK
   simp only
   refine V 8 88 (AO (x := .tmp 11) (v := .tuple #[.int .i64 0, .int .i64 0]) rfl) ?_
   refine V 12 27 (Bz (x := .tmp 8) (vs := #[.int .i64 0, .int .i64 0]) (i := 0) (v := .int .i64 0) rfl rfl) ?_
   refine V 13 3 (Bz (x := .tmp 8) (vs := #[.int .i64 0, .int .i64 0]) (i := 1) (v := .int .i64 0) rfl rfl) ?_
   refine V 6 27 (AB (x := .tmp 12) (v := .int .i64 0) rfl) ?_
   refine V 7 3 (AB (x := .tmp 13) (v := .int .i64 0) rfl) ?_
   refine Sd ?_
   refine Ac ?_
   refine Sq ?_
   refine Sq ?_
   refine Rg [0, 1] ?_
   refine V 14 27 (AO (x := .tmp 6) (v := .int .i64 0) rfl) ?_
   refine V 15 4 (Ic (t := 27) (t' := 27) (x := .tmp 14) (y := .const (.int .i64 0)) (k := .i64) (a := 0) (b := 0) rfl rfl) ?_
   refine Sd ?_
   refine Ac ?_
   refine CWP.cond0 (t := false) (by kernel_rfl) rfl rfl ?_
   refine CWP.skip (by kernel_rfl) ?_
   refine Ac ?_
   refine Sq ?_
   refine Rg [0, 1, 2, 3, 4] ?_
   refine V 19 0 (BS (s := 113) (x := .tmp 5) (i := 0) (o := 0) (k := 3) (b := b5) (o0 := 0) rfl (by kernel_rfl) rfl (o1 := 0) rfl) ?_
   refine V 20 33 (B1 (t := 33) (x := .tmp 19) (b := b5) (o := 0) (g := true) (s := 3) (C := #[.int .i64 e.Op, .int .i64 e.Value, .slice a e.Kids.length n, .int .i64 at_]) (v := .agg #[.int .i64 e.Op, .int .i64 e.Value, .slice a e.Kids.length n]) rfl (by kernel_rfl) (hs5.ownAt (k := 0) rfl) rfl rfl rfl) ?_
   subst hX
   refine St (ty := 0) (g := none) (by kernel_rfl) rfl (x := .tmp 2) (y := .tmp 20) (t := 33) (gg := true) (s := 3) (v := .agg #[.int .i64 e.Op, .int .i64 e.Value, .slice a e.Kids.length n]) (b := b2) (o := 0) (C := #[.int .i64 0, .int .i64 0, .slice none 0 0]) rfl rfl (by kernel_rfl) hs5 (k := 1) rfl rfl rfl rfl (C' := #[.int .i64 e.Op, .int .i64 e.Value, .slice a e.Kids.length n]) rfl (fun w6 hs6 => ?_)
   refine V 3 27 (AB (x := .const (.int .i64 0)) (v := .int .i64 0) rfl) ?_
   refine V 4 3 (AB (x := .const (.int .i64 0)) (v := .int .i64 0) rfl) ?_
   refine Sd ?_
   refine Ac ?_
   refine CWP.ret (by kernel_rfl) ?_
   obtain rfl := Aa hr
   exact ⟨rfl, _, AC (l := [.cell 2 33, .tmp 3, .tmp 4]) (by kernel_rfl) (vs := [.agg #[.int .i64 e.Op, .int .i64 e.Value, .slice a e.Kids.length n], .int .i64 0, .int .i64 0]) ⟨b2, 0, rfl, Aj (t := 33) (g := true) (s := 3) (by kernel_rfl) (hs6.ownAt (k := 1) rfl) rfl (by decide), rfl, rfl, trivial⟩, _, F5, rfl, hs6.clear, a, n, rfl, hb, hsl⟩
  | some x =>
   obtain ⟨hr, hL⟩ := hK
   have hs6 : HS w0 F0 w5 F5 X := by
    rcases hL with rfl | ⟨o, rfl⟩
    ·exact hs5
    ·exact hs5.drop 0
   clear hs5 hL
   cases hne : x.e_ != 0 with
   | false => rw [hne] at hr; cases hr
   | true =>
    rw [hne] at hr
    obtain rfl := Aa hr
    simp only
    refine V 8 88 (AO (x := .tmp 11) (v := .tuple #[.int .i64 x.e_, .int .i64 x.at_]) rfl) ?_
    refine V 12 27 (Bz (x := .tmp 8) (vs := #[.int .i64 x.e_, .int .i64 x.at_]) (i := 0) (v := .int .i64 x.e_) rfl rfl) ?_
    refine V 13 3 (Bz (x := .tmp 8) (vs := #[.int .i64 x.e_, .int .i64 x.at_]) (i := 1) (v := .int .i64 x.at_) rfl rfl) ?_
    refine V 6 27 (AB (x := .tmp 12) (v := .int .i64 x.e_) rfl) ?_
    refine V 7 3 (AB (x := .tmp 13) (v := .int .i64 x.at_) rfl) ?_
    refine Sd ?_
    refine Ac ?_
    refine Sq ?_
    refine Sq ?_
    refine Rg [0, 1] ?_
    refine V 14 27 (AO (x := .tmp 6) (v := .int .i64 x.e_) rfl) ?_
    refine V 15 4 (Ic (t := 27) (t' := 27) (x := .tmp 14) (y := .const (.int .i64 0)) (k := .i64) (a := x.e_) (b := 0) rfl rfl) ?_
    refine Sd ?_
    refine Ac ?_
    refine CWP.cond1 (t := x.e_ != 0) (by kernel_rfl) rfl hne ?_
    refine Sq ?_
    refine Rg [0, 1, 2, 3, 4, 5] ?_
    refine V 16 33 (FY (t := 33) (parts := #[]) (vs := []) rfl (cs := [.int .i64 0, .int .i64 0, .slice none 0 0]) (by kernel_rfl)) ?_
    refine V 17 27 (AO (x := .tmp 6) (v := .int .i64 x.e_) rfl) ?_
    refine V 18 3 (AO (x := .tmp 7) (v := .int .i64 x.at_) rfl) ?_
    subst hX
    refine St (ty := 0) (g := none) (by kernel_rfl) rfl (x := .tmp 2) (y := .tmp 16) (t := 33) (gg := true) (s := 3) (v := .agg #[.int .i64 0, .int .i64 0, .slice none 0 0]) (b := b2) (o := 0) (C := #[.int .i64 0, .int .i64 0, .slice none 0 0]) rfl rfl (by kernel_rfl) hs6 (k := 0) rfl rfl rfl rfl (C' := #[.int .i64 0, .int .i64 0, .slice none 0 0]) rfl (fun w7 hs7 => ?_)
    refine V 3 27 (AB (x := .tmp 17) (v := .int .i64 x.e_) rfl) ?_
    refine V 4 3 (AB (x := .tmp 18) (v := .int .i64 x.at_) rfl) ?_
    refine Sd ?_
    refine Ac ?_
    refine CWP.ret (by kernel_rfl) ?_
    refine Ae ?_
    exact ⟨rfl, _, AC (l := [.cell 2 33, .tmp 3, .tmp 4]) (by kernel_rfl) (vs := [.agg #[.int .i64 0, .int .i64 0, .slice none 0 0], .int .i64 x.e_, .int .i64 x.at_]) ⟨b2, 0, rfl, Aj (t := 33) (g := true) (s := 3) (by kernel_rfl) (hs7.ownAt (k := 0) rfl) rfl (by decide), rfl, rfl, trivial⟩, _, F5, rfl, hs7.clear, none, 0, rfl, Sl, .inl rfl⟩
theorem GZ : Al Tryz.prog 22 := fun _ _ => by kernel_rfl
set_option maxRecDepth 100000 in
theorem HO (N : Nat) (w0 : World) (F0 : Mem) (hF : SH w0 F0) (hG : B0 F0) (x0 : SF) (r : Be × Int × Int) (h : D0 N x0 = some r) :
  Calls Tryz.prog 22 ([.string ⟨x0.toArray⟩] : List Value).toArray w0 (AJ w0 F0 fun F' v => ∃ (aq0_0 : SG) (nq0_0 : Nat) (aq0_1 : SG) (nq0_1 : Nat) (aq0_2 : SG) (nq0_2 : Nat) (aq0_3 : SG) (nq0_3 : Nat), v = (.tuple #[(.agg #[(.slice aq0_0 r.1.Points.length nq0_0), (.slice aq0_1 r.1.Multipliers.length nq0_1), (.slice aq0_2 r.1.Penalties.length nq0_2), (.slice aq0_3 r.1.Repeats.length nq0_3)]), (.int .i64 r.2.1), (.int .i64 r.2.2)]) /\ LC r.1.Points.length nq0_0 /\ SlA As F' aq0_0 r.1.Points /\ LC r.1.Multipliers.length nq0_1 /\ SlA As F' aq0_1 r.1.Multipliers /\ LC r.1.Penalties.length nq0_2 /\ SlA As F' aq0_2 r.1.Penalties /\ LC r.1.Repeats.length nq0_3 /\ SlA Ao F' aq0_3 r.1.Repeats) := by
 have hs0 := Sj hF
 refine ET (n := 20) (c := B8 Tryz.f22) Tryz.func22 (by kernel_rfl) (by kernel_rfl) (by kernel_rfl) ?_
 refine Sq ?_
 refine Rg [0, 1, 2] ?_
 refine Sr (dst := some 2) (ty := 0) (g := none) (by kernel_rfl) rfl (t := 26) (z := .agg #[.slice none 0 0, .slice none 0 0, .slice none 0 0, .slice none 0 0]) (by kernel_rfl) (C := #[.slice none 0 0, .slice none 0 0, .slice none 0 0, .slice none 0 0]) rfl hs0 (fun b2 w1 hs1 => ?_)
 refine V 3 27 (AB (x := .const (.int .i64 0)) (v := .int .i64 0) rfl) ?_
 refine V 4 3 (AB (x := .const (.int .i64 0)) (v := .int .i64 0) rfl) ?_
 refine Sd ?_
 refine Ac ?_
 refine Sq ?_
 refine Rg [0] ?_
 refine Sr (dst := some 5) (ty := 0) (g := none) (by kernel_rfl) rfl (t := 26) (z := .agg #[.slice none 0 0, .slice none 0 0, .slice none 0 0, .slice none 0 0]) (by kernel_rfl) (C := #[.slice none 0 0, .slice none 0 0, .slice none 0 0, .slice none 0 0]) rfl hs1 (fun b5 w2 hs2 => ?_)
 refine Sd ?_
 refine Ac ?_
 refine Sq ?_
 refine Rg [0, 1, 2, 3, 4, 5, 6, 7] ?_
 refine V 9 9 (AO (x := .tmp 0) (v := .string ⟨x0.toArray⟩) rfl) ?_
 refine V 10 103 (CQ (fn := .func 79) (first := #[]) (cap := #[.tmp 5]) (fl := []) (cl := [.pointer (some ⟨b5, 0, none⟩)]) rfl rfl) ?_
 obtain ⟨X, hX⟩ : ∃ X : Own, X = [(some b2, .cells #[.slice none 0 0, .slice none 0 0, .slice none 0 0, .slice none 0 0] 26 (0, 0))] := ⟨_, rfl⟩
 refine Sf (dst := some 11) (ty := 88) (g := none) (by kernel_rfl) rfl (CW (f := .func 78) (aos := #[.tmp 9, .tmp 10]) (ats := #[9, 103]) (g := 78) (first := #[]) (cap := #[]) (args := [.string ⟨x0.toArray⟩, .func (.func 79) #[] #[.pointer (some ⟨b5, 0, none⟩)]]) rfl HL rfl)
  (I5 N hs2 x0 (g := 79) (cap := [.pointer (some ⟨b5, 0, none⟩)]) Jw (fun o F' L' => match o with
   | none => ∃ (e : Be) (a0 : SG) (n0 : Nat) (a1 : SG) (n1 : Nat) (a2 : SG) (n2 : Nat) (a3 : SG) (n3 : Nat), L' = (some b5, .cells #[.slice a0 e.Points.length n0, .slice a1 e.Multipliers.length n1, .slice a2 e.Penalties.length n2, .slice a3 e.Repeats.length n3] 26 (0, 0)) :: X /\ LC e.Points.length n0 /\ SlA As F' a0 e.Points /\ LC e.Multipliers.length n1 /\ SlA As F' a1 e.Multipliers /\ LC e.Penalties.length n2 /\ SlA As F' a2 e.Penalties /\ LC e.Repeats.length n3 /\ SlA Ao F' a3 e.Repeats /\ some (e, (0 : Int), (0 : Int)) = some r
   | some x => (bif x.e_ != 0 then some (Ok, x.e_, x.at_) else none) = some r /\ (L' = X \/ ∃ o, L' = (some b5, o) :: X)) ?_ ?_) ?_
 ·intro hc F'
  unfold D0 Ji at h
  rw [Np hc] at h
  exact ⟨h, .inr ⟨_, by rw [hX]⟩⟩
 ·intro hc
  unfold D0 Ji at h
  rw [L4 hc] at h
  obtain ⟨l, hl, h⟩ := bind_some h
  obtain ⟨q, hq, h⟩ := bind_some h
  refine ⟨l, hl, fun w3 F3 be_ ba_ bp a n le3 hb hsl hs3 => ?_⟩
  have hs4 : HS w0 F0 w3 F3 ((some bp, .cells #[.slice a l.length n, .int .i64 0] 100 (0, 0)) :: (some b5, .cells #[.slice none 0 0, .slice none 0 0, .slice none 0 0, .slice none 0 0] 26 (0, 0)) :: (none, .cells #[] 0 (0, 0)) :: (none, .cells #[] 0 (0, 0)) :: (none, .cells #[] 0 (0, 0)) :: (none, .cells #[] 0 (0, 0)) :: (some ba_, ba 0) :: (some be_, be 0) :: X) := by
   have h0 : HS w0 F0 w3 F3 ((some bp, .cells #[.slice a l.length n, .int .i64 0] 100 (0, 0)) :: (some b5, .cells #[.slice none 0 0, .slice none 0 0, .slice none 0 0, .slice none 0 0] 26 (0, 0)) :: (some ba_, ba 0) :: (some be_, be 0) :: X) := by
    rw [hX]; exact (hs3.pick (k := 3) rfl).pick (k := 1) rfl
   exact (((((h0.dummy (.cells #[] 0 (0, 0))).dummy (.cells #[] 0 (0, 0))).dummy (.cells #[] 0 (0, 0))).dummy (.cells #[] 0 (0, 0))).pick (k := 5) rfl).pick (k := 5) rfl
  refine (J8 N (hG.mono (hs3.le)) bp { l_ := l, open_ := 0 } a n hb hsl b5 Ok none 0 (none, .cells #[] 0 (0, 0)) none 0 (none, .cells #[] 0 (0, 0)) none 0 (none, .cells #[] 0 (0, 0)) none 0 (none, .cells #[] 0 (0, 0)) (Aw.nil _ _ _ _) (Aw.nil _ _ _ _) (Aw.nil _ _ _ _) (Aw.nil _ _ _ _) hs4 q hq).mono ?_
  rintro e w4 (⟨q1, F4, v, L', rfl, rfl, hs5, le5, aq, nq, a0, n0, e0, a1, n1, e1, a2, n2, e2, a3, n3, e3, rfl, rfl, h1, h2, r0, r1, r2, r3⟩ | ⟨x, F4, rfl, rfl, hs5, le5⟩)
  ·have hs6 := hs5.drop 0
   obtain ⟨G0, hg0, lg0, s0⟩ : ∃ Fq, HS w0 F0 w4 Fq ((some b5, .cells #[.slice a0 q1.2.Points.length n0, .slice a1 q1.2.Multipliers.length n1, .slice a2 q1.2.Penalties.length n2, .slice a3 q1.2.Repeats.length n3] 26 (0, 0)) :: e1 :: e2 :: e3 :: (some ba_, ba 0) :: (some be_, be 0) :: X) /\ Sh F4 Fq /\ SlA As Fq a0 q1.2.Points := HS.freezeRow hs6 (k := 1) rfl r0
   obtain ⟨G1, hg1, lg1, s1⟩ : ∃ Fq, HS w0 F0 w4 Fq ((some b5, .cells #[.slice a0 q1.2.Points.length n0, .slice a1 q1.2.Multipliers.length n1, .slice a2 q1.2.Penalties.length n2, .slice a3 q1.2.Repeats.length n3] 26 (0, 0)) :: e2 :: e3 :: (some ba_, ba 0) :: (some be_, be 0) :: X) /\ Sh G0 Fq /\ SlA As Fq a1 q1.2.Multipliers := HS.freezeRow hg0 (k := 1) rfl (r1.mono lg0)
   obtain ⟨G2, hg2, lg2, s2⟩ : ∃ Fq, HS w0 F0 w4 Fq ((some b5, .cells #[.slice a0 q1.2.Points.length n0, .slice a1 q1.2.Multipliers.length n1, .slice a2 q1.2.Penalties.length n2, .slice a3 q1.2.Repeats.length n3] 26 (0, 0)) :: e3 :: (some ba_, ba 0) :: (some be_, be 0) :: X) /\ Sh G1 Fq /\ SlA As Fq a2 q1.2.Penalties := HS.freezeRow hg1 (k := 1) rfl (r2.mono (lg0.trans lg1))
   obtain ⟨G3, hg3, lg3, s3⟩ : ∃ Fq, HS w0 F0 w4 Fq ((some b5, .cells #[.slice a0 q1.2.Points.length n0, .slice a1 q1.2.Multipliers.length n1, .slice a2 q1.2.Penalties.length n2, .slice a3 q1.2.Repeats.length n3] 26 (0, 0)) :: (some ba_, ba 0) :: (some be_, be 0) :: X) /\ Sh G2 Fq /\ SlA Ao Fq a3 q1.2.Repeats := HS.freezeRow hg2 (k := 1) rfl (r3.mono ((lg0.trans lg1).trans lg2))
   exact .inl ⟨_, G3, _, rfl, (hg3.pick (k := 2) rfl).pick (k := 2) rfl, (((le5.trans lg0).trans lg1).trans lg2).trans lg3, q1.2, a0, n0, a1, n1, a2, n2, a3, n3, rfl, r0.bound, s0.mono ((lg1.trans lg2).trans lg3), r1.bound, s1.mono (lg2.trans lg3), r2.bound, s2.mono lg3, r3.bound, s3, h⟩
  ·exact .inr ⟨x, F4, _, rfl, hs5, le5, h, .inl rfl⟩
 ·rintro e w5 ⟨o, F5, L5, rfl, hs5, le5, hK⟩
  cases o with
  | none =>
   obtain ⟨e, a0, n0, a1, n1, a2, n2, a3, n3, rfl, hb0, hl0, hb1, hl1, hb2, hl2, hb3, hl3, hr⟩ := hK
   simp only
   refine V 8 88 (AO (x := .tmp 11) (v := .tuple #[.int .i64 0, .int .i64 0]) rfl) ?_
   refine V 12 27 (Bz (x := .tmp 8) (vs := #[.int .i64 0, .int .i64 0]) (i := 0) (v := .int .i64 0) rfl rfl) ?_
   refine V 13 3 (Bz (x := .tmp 8) (vs := #[.int .i64 0, .int .i64 0]) (i := 1) (v := .int .i64 0) rfl rfl) ?_
   refine V 6 27 (AB (x := .tmp 12) (v := .int .i64 0) rfl) ?_
   refine V 7 3 (AB (x := .tmp 13) (v := .int .i64 0) rfl) ?_
   refine Sd ?_
   refine Ac ?_
   refine Sq ?_
   refine Sq ?_
   refine Rg [0, 1] ?_
   refine V 14 27 (AO (x := .tmp 6) (v := .int .i64 0) rfl) ?_
   refine V 15 4 (Ic (t := 27) (t' := 27) (x := .tmp 14) (y := .const (.int .i64 0)) (k := .i64) (a := 0) (b := 0) rfl rfl) ?_
   refine Sd ?_
   refine Ac ?_
   refine CWP.cond0 (t := false) (by kernel_rfl) rfl rfl ?_
   refine CWP.skip (by kernel_rfl) ?_
   refine Ac ?_
   refine Sq ?_
   refine Rg [0, 1, 2, 3] ?_
   refine V 19 26 (B1 (t := 26) (x := .tmp 5) (b := b5) (o := 0) (g := true) (s := 4) (C := #[.slice a0 e.Points.length n0, .slice a1 e.Multipliers.length n1, .slice a2 e.Penalties.length n2, .slice a3 e.Repeats.length n3]) (v := .agg #[.slice a0 e.Points.length n0, .slice a1 e.Multipliers.length n1, .slice a2 e.Penalties.length n2, .slice a3 e.Repeats.length n3]) rfl (by kernel_rfl) (hs5.ownAt (k := 0) rfl) rfl rfl rfl) ?_
   subst hX
   refine St (ty := 0) (g := none) (by kernel_rfl) rfl (x := .tmp 2) (y := .tmp 19) (t := 26) (gg := true) (s := 4) (v := .agg #[.slice a0 e.Points.length n0, .slice a1 e.Multipliers.length n1, .slice a2 e.Penalties.length n2, .slice a3 e.Repeats.length n3]) (b := b2) (o := 0) (C := #[.slice none 0 0, .slice none 0 0, .slice none 0 0, .slice none 0 0]) rfl rfl (by kernel_rfl) hs5 (k := 1) rfl rfl rfl rfl (C' := #[.slice a0 e.Points.length n0, .slice a1 e.Multipliers.length n1, .slice a2 e.Penalties.length n2, .slice a3 e.Repeats.length n3]) rfl (fun w6 hs6 => ?_)
   refine V 3 27 (AB (x := .const (.int .i64 0)) (v := .int .i64 0) rfl) ?_
   refine V 4 3 (AB (x := .const (.int .i64 0)) (v := .int .i64 0) rfl) ?_
   refine Sd ?_
   refine Ac ?_
   refine CWP.ret (by kernel_rfl) ?_
   obtain rfl := Aa hr
   exact ⟨rfl, _, AC (l := [.cell 2 26, .tmp 3, .tmp 4]) (by kernel_rfl) (vs := [.agg #[.slice a0 e.Points.length n0, .slice a1 e.Multipliers.length n1, .slice a2 e.Penalties.length n2, .slice a3 e.Repeats.length n3], .int .i64 0, .int .i64 0]) ⟨b2, 0, rfl, Aj (t := 26) (g := true) (s := 4) (by kernel_rfl) (hs6.ownAt (k := 1) rfl) rfl (by decide), rfl, rfl, trivial⟩, _, F5, rfl, hs6.clear, a0, n0, a1, n1, a2, n2, a3, n3, rfl, hb0, hl0, hb1, hl1, hb2, hl2, hb3, hl3⟩
  | some x =>
   obtain ⟨hr, hL⟩ := hK
   have hs6 : HS w0 F0 w5 F5 X := by
    rcases hL with rfl | ⟨o, rfl⟩
    ·exact hs5
    ·exact hs5.drop 0
   clear hs5 hL
   cases hne : x.e_ != 0 with
   | false => rw [hne] at hr; cases hr
   | true =>
    rw [hne] at hr
    obtain rfl := Aa hr
    simp only
    refine V 8 88 (AO (x := .tmp 11) (v := .tuple #[.int .i64 x.e_, .int .i64 x.at_]) rfl) ?_
    refine V 12 27 (Bz (x := .tmp 8) (vs := #[.int .i64 x.e_, .int .i64 x.at_]) (i := 0) (v := .int .i64 x.e_) rfl rfl) ?_
    refine V 13 3 (Bz (x := .tmp 8) (vs := #[.int .i64 x.e_, .int .i64 x.at_]) (i := 1) (v := .int .i64 x.at_) rfl rfl) ?_
    refine V 6 27 (AB (x := .tmp 12) (v := .int .i64 x.e_) rfl) ?_
    refine V 7 3 (AB (x := .tmp 13) (v := .int .i64 x.at_) rfl) ?_
    refine Sd ?_
    refine Ac ?_
    refine Sq ?_
    refine Sq ?_
    refine Rg [0, 1] ?_
    refine V 14 27 (AO (x := .tmp 6) (v := .int .i64 x.e_) rfl) ?_
    refine V 15 4 (Ic (t := 27) (t' := 27) (x := .tmp 14) (y := .const (.int .i64 0)) (k := .i64) (a := x.e_) (b := 0) rfl rfl) ?_
    refine Sd ?_
    refine Ac ?_
    refine CWP.cond1 (t := x.e_ != 0) (by kernel_rfl) rfl hne ?_
    refine Sq ?_
    refine Rg [0, 1, 2, 3, 4, 5] ?_
    refine V 16 26 (FY (t := 26) (parts := #[]) (vs := []) rfl (cs := [.slice none 0 0, .slice none 0 0, .slice none 0 0, .slice none 0 0]) (by kernel_rfl)) ?_
    refine V 17 27 (AO (x := .tmp 6) (v := .int .i64 x.e_) rfl) ?_
    refine V 18 3 (AO (x := .tmp 7) (v := .int .i64 x.at_) rfl) ?_
    subst hX
    refine St (ty := 0) (g := none) (by kernel_rfl) rfl (x := .tmp 2) (y := .tmp 16) (t := 26) (gg := true) (s := 4) (v := .agg #[.slice none 0 0, .slice none 0 0, .slice none 0 0, .slice none 0 0]) (b := b2) (o := 0) (C := #[.slice none 0 0, .slice none 0 0, .slice none 0 0, .slice none 0 0]) rfl rfl (by kernel_rfl) hs6 (k := 0) rfl rfl rfl rfl (C' := #[.slice none 0 0, .slice none 0 0, .slice none 0 0, .slice none 0 0]) rfl (fun w7 hs7 => ?_)
    refine V 3 27 (AB (x := .tmp 17) (v := .int .i64 x.e_) rfl) ?_
    refine V 4 3 (AB (x := .tmp 18) (v := .int .i64 x.at_) rfl) ?_
    refine Sd ?_
    refine Ac ?_
    refine CWP.ret (by kernel_rfl) ?_
    refine Ae ?_
    exact ⟨rfl, _, AC (l := [.cell 2 26, .tmp 3, .tmp 4]) (by kernel_rfl) (vs := [.agg #[.slice none 0 0, .slice none 0 0, .slice none 0 0, .slice none 0 0], .int .i64 x.e_, .int .i64 x.at_]) ⟨b2, 0, rfl, Aj (t := 26) (g := true) (s := 4) (by kernel_rfl) (hs7.ownAt (k := 0) rfl) rfl (by decide), rfl, rfl, trivial⟩, _, F5, rfl, hs7.clear, none, 0, none, 0, none, 0, none, 0, rfl, Sl, .inl rfl, Sl, .inl rfl, Sl, .inl rfl, Sl, .inl rfl⟩
def Iq (N : Nat)  : Option Bool :=
 ((Cu N ([49, 32, 43, 32, 50, 32, 42, 32, 51, 32, 61, 32, 55, 32, 97, 110, 100, 32, 110, 111, 116, 32, 98, 97, 110, 100, 32, 60, 32, 50] : SF)).bind fun r21 => ((Ct N r21.1).bind fun r34 => ((D0 N ([112, 111, 105, 110, 116, 115, 58, 32, 98, 97, 110, 100, 32, 61, 32, 49, 32, 61, 62, 32, 50] : SF)).bind fun r42 => ((D0 N ([112, 111, 105, 110, 116, 115, 58, 32, 98, 97, 110, 100, 32, 61, 62, 32, 50] : SF)).bind fun r55 => ((mk0 0 14).bind fun r68 => ((idx r68 0).bind fun x78 => ((Ig N r42.1 (r68.set (0 : Int).toNat 1)).bind fun r97 => ((Cu N ([105, 102, 40, 98, 97, 110, 100, 32, 61, 32, 98, 97, 110, 100, 44, 32, 48, 32, 43, 32, 122, 111, 110, 101, 44, 32, 55, 41] : SF)).bind fun r105 => ((GA N r105.1).bind fun r118 => (bif ((r21.2.1 != 0) || ((r34.2 != 0) || ((r42.2.1 != 0) || ((r55.2.1 != 61) || ((r97.2 != 0) || ((r105.2.1 != 0) || ((r118.2 != 0) || (r55.2.2 != 8)))))))) then some false else some ((r21.1.Op == 4) && ((r34.1 == ([49, 32, 43, 32, 50, 32, 42, 32, 51, 32, 61, 32, 55, 32, 97, 110, 100, 32, 110, 111, 116, 32, 98, 97, 110, 100, 32, 60, 32, 50] : SF)) && ((r97.1 == 2) && ((r118.1.Op == 2) && (r118.1.Value == 7)))))))))))))))
theorem J4 : Al Tryz.prog 21 := fun _ _ => by kernel_rfl
theorem K9 (N : Nat) (w0 : World) (F0 : Mem) (hF : SH w0 F0) (hG : B0 F0)  (r : Bool) (h : Iq N  = some r) :
  Calls Tryz.prog 21 ([] : List Value).toArray w0 (AJ w0 F0 fun F' v => v = (.bool r)) := by
 have hs0 := Sj hF
 refine Go 110 Tryz.func21 ?_
 refine Sq (Rg [0] ?_)
 refine Vs 1 ?_
 refine Nss (Rg [0, 1, 2, 3, 4, 5, 6, 7, 8] ?_)
 obtain ⟨r21, hr22, h23⟩ := bind_some h
 refine Cl' EO hs0 (Fl N w0 F0 hs0.pers hG (([49, 32, 43, 32, 50, 32, 42, 32, 51, 32, 61, 32, 55, 32, 97, 110, 100, 32, 110, 111, 116, 32, 98, 97, 110, 100, 32, 60, 32, 50] : SF)) _ hr22) ?_
 rintro _ F1 w25 hs26 le27 ⟨ar21_0_2, nr21_0_2, rfl, hbr21_0_2, hsr21_0_2⟩
 refine Vs 4 ?_
 refine Al' 33 #[(vi 0), (vi 0), (.slice none ([] : List Expr).length 0)] hs26 (fun b29 w30 hs31 => ?_)
 refine St0 (Ag r21.1 ar21_0_2 nr21_0_2) hs31 (fun w32 hs33 => ?_)
 refine Vs 2 ?_
 refine Nss (Rg [0, 1, 2, 3, 4, 5, 6] ?_)
 refine Ld hs33.at0 ?_
 obtain ⟨r34, hr35, h36⟩ := bind_some h23
 refine Cl' EN hs33 (Fk N w32 F1 hs33.pers (hG.mono le27) r21.1 ar21_0_2 nr21_0_2 hbr21_0_2 hsr21_0_2 _ hr35) ?_
 rintro _ F2 w38 hs39 le40 rfl
 refine Vs 5 ?_
 refine Nss (Rg [0, 1, 2, 3, 4, 5, 6, 7, 8] ?_)
 obtain ⟨r42, hr43, h44⟩ := bind_some h36
 refine Cl' GZ hs39 (HO N w38 F2 hs39.pers (hG.mono (le27.trans le40)) (([112, 111, 105, 110, 116, 115, 58, 32, 98, 97, 110, 100, 32, 61, 32, 49, 32, 61, 62, 32, 50] : SF)) _ hr43) ?_
 rintro _ F3 w46 hs47 le48 ⟨ar42_0_0, nr42_0_0, ar42_0_1, nr42_0_1, ar42_0_2, nr42_0_2, ar42_0_3, nr42_0_3, rfl, hbr42_0_0, hsr42_0_0, hbr42_0_1, hsr42_0_1, hbr42_0_2, hsr42_0_2, hbr42_0_3, hsr42_0_3⟩
 refine Vs 4 ?_
 refine Al' 26 #[(.slice none ([] : List Clause).length 0), (.slice none ([] : List Clause).length 0), (.slice none ([] : List Clause).length 0), (.slice none ([] : List Expr).length 0)] hs47 (fun b50 w51 hs52 => ?_)
 refine St0 (AU r42.1 ar42_0_0 nr42_0_0 ar42_0_1 nr42_0_1 ar42_0_2 nr42_0_2 ar42_0_3 nr42_0_3) hs52 (fun w53 hs54 => ?_)
 refine Vs 2 ?_
 refine Nss (Rg [0, 1, 2, 3, 4, 5, 6, 7, 8] ?_)
 obtain ⟨r55, hr56, h57⟩ := bind_some h44
 refine Cl' GZ hs54 (HO N w53 F3 hs54.pers (hG.mono ((le27.trans le40).trans le48)) (([112, 111, 105, 110, 116, 115, 58, 32, 98, 97, 110, 100, 32, 61, 62, 32, 50] : SF)) _ hr56) ?_
 rintro _ F4 w59 hs60 le61 ⟨ar55_0_0, nr55_0_0, ar55_0_1, nr55_0_1, ar55_0_2, nr55_0_2, ar55_0_3, nr55_0_3, rfl, hbr55_0_0, hsr55_0_0, hbr55_0_1, hsr55_0_1, hbr55_0_2, hsr55_0_2, hbr55_0_3, hsr55_0_3⟩
 refine Vs 4 ?_
 refine Al' 26 #[(.slice none ([] : List Clause).length 0), (.slice none ([] : List Clause).length 0), (.slice none ([] : List Clause).length 0), (.slice none ([] : List Expr).length 0)] hs60 (fun b63 w64 hs65 => ?_)
 refine St0 (AU r55.1 ar55_0_0 nr55_0_0 ar55_0_1 nr55_0_1 ar55_0_2 nr55_0_2 ar55_0_3 nr55_0_3) hs65 (fun w66 hs67 => ?_)
 refine Vs 2 ?_
 refine Nss (Rg [0, 1] ?_)
 obtain ⟨r68, hm69, h70⟩ := bind_some h57
 refine RWP.makeSlice (dst := (some 40)) (ty := 47) (g := none) (by kernel_rfl) rfl (x := (.const (vi 14))) (y := (.const (vi 14))) (t := 47) (by_ := 8) (z := (vi 0)) (T := Ck) (E := 3) rfl rfl (by kernel_rfl) (by decide) (by kernel_rfl) (z0 := 0) (fun _ => rfl) (by decide) hs67 hm69 (fun b71 n72 C73 w74 (hs75 : HS w0 F0 w74 F4 [(some b71, .cells C73 3 (0, 0)), (sb b63 (AU r55.1 ar55_0_0 nr55_0_0 ar55_0_1 nr55_0_1 ar55_0_2 nr55_0_2 ar55_0_3 nr55_0_3) 26), (sb b50 (AU r42.1 ar42_0_0 nr42_0_0 ar42_0_1 nr42_0_1 ar42_0_2 nr42_0_2 ar42_0_3 nr42_0_3) 26), (sb b29 (Ag r21.1 ar21_0_2 nr21_0_2) 33)]) hr76 => ?_)
 refine Vs 1 ?_
 refine Nss (Rg [0, 1, 2] ?_)
 refine Vs 1 ?_
 obtain ⟨x78, hx79, h81⟩ := bind_some h70
 obtain ⟨hi80, hx79'⟩ := Ap hx79
 obtain ⟨b82, C83, ha84, he85, hE86⟩ := SD hr76 hx79'
 cases ha84
 cases he85
 have hc88 := hE86 _ _ hx79'
 refine Ix0 hi80 ?_
 refine RWP.storeRow (ty := 0) (g := none) (by kernel_rfl) rfl (x := (.tmp 42)) (y := (.const (vi 1))) (t := 3) (v := (vi 1)) (gg := false) (b := b71) (j := (0 : Int).toNat) (C := C73) (T := Ck) (E := 3) (u := 1) rfl rfl (by kernel_rfl) hs75 (k := 0) rfl hr76 hx79' rfl rfl (fun C89 w90 (hs91 : HS w0 F0 w90 F4 [(some b71, .cells C89 3 (0, 0)), (sb b63 (AU r55.1 ar55_0_0 nr55_0_0 ar55_0_1 nr55_0_1 ar55_0_2 nr55_0_2 ar55_0_3 nr55_0_3) 26), (sb b50 (AU r42.1 ar42_0_0 nr42_0_0 ar42_0_1 nr42_0_1 ar42_0_2 nr42_0_2 ar42_0_3 nr42_0_3) 26), (sb b29 (Ag r21.1 ar21_0_2 nr21_0_2) 33)]) hr92 => ?_)
 refine Nss (Rg [0, 1, 2, 3, 4, 5, 6, 7] ?_)
 refine Ld hs91.at2 ?_
 refine V 45 47 (mv 12 (.slice (some ⟨b71, 0, none⟩) (r68.set (0 : Int).toNat 1).length n72) (Mn rfl)) ?_
 have hb96 := SB hr92
 obtain ⟨F5, hs93, le94, hs95⟩ := hs91.fr0 hr92
 obtain ⟨r97, hr98, h99⟩ := bind_some h81
 refine Cl' J1 hs93 (K6 N w90 F5 hs93.pers r42.1 ar42_0_0 nr42_0_0 hbr42_0_0 (Sk hsr42_0_0 (le61.trans le94)) ar42_0_1 nr42_0_1 hbr42_0_1 (Sk hsr42_0_1 (le61.trans le94)) ar42_0_2 nr42_0_2 hbr42_0_2 (Sk hsr42_0_2 (le61.trans le94)) ar42_0_3 nr42_0_3 hbr42_0_3 (Sk hsr42_0_3 (le61.trans le94)) ((r68.set (0 : Int).toNat 1)) (some ⟨b71, 0, none⟩) n72 hb96 hs95 _ hr98) ?_
 rintro _ F6 w101 hs102 le103 rfl
 refine Vs 5 ?_
 refine Nss (Rg [0, 1, 2, 3, 4, 5, 6, 7, 8] ?_)
 obtain ⟨r105, hr106, h107⟩ := bind_some h99
 refine Cl' EO hs102 (Fl N w101 F6 hs102.pers (hG.mono (((((le27.trans le40).trans le48).trans le61).trans le94).trans le103)) (([105, 102, 40, 98, 97, 110, 100, 32, 61, 32, 98, 97, 110, 100, 44, 32, 48, 32, 43, 32, 122, 111, 110, 101, 44, 32, 55, 41] : SF)) _ hr106) ?_
 rintro _ F7 w109 hs110 le111 ⟨ar105_0_2, nr105_0_2, rfl, hbr105_0_2, hsr105_0_2⟩
 refine Vs 4 ?_
 refine Al' 33 #[(vi 0), (vi 0), (.slice none ([] : List Expr).length 0)] hs110 (fun b113 w114 hs115 => ?_)
 refine St0 (Ag r105.1 ar105_0_2 nr105_0_2) hs115 (fun w116 hs117 => ?_)
 refine Vs 2 ?_
 refine Nss (Rg [0, 1, 2, 3, 4, 5, 6, 7] ?_)
 refine Ld hs117.at0 ?_
 obtain ⟨r118, hr119, h120⟩ := bind_some h107
 refine Cl' I1 hs117 (JC N w116 F7 hs117.pers r105.1 ar105_0_2 nr105_0_2 hbr105_0_2 hsr105_0_2 _ hr119) ?_
 rintro _ F8 w122 hs123 le124 ⟨ar118_0_2, nr118_0_2, rfl, hbr118_0_2, hsr118_0_2⟩
 refine Vs 3 ?_
 refine Al' 33 #[(vi 0), (vi 0), (.slice none ([] : List Expr).length 0)] hs123 (fun b126 w127 hs128 => ?_)
 refine St0 (Ag r118.1 ar118_0_2 nr118_0_2) hs128 (fun w129 hs130 => ?_)
 refine Vs 1 ?_
 refine Nss ?_
 refine Sq (Rg [0, 1, 2, 3, 4, 5, 6, 7, 8, 9, 10, 11, 12, 13, 14, 15, 16, 17, 18, 19, 20, 21, 22, 23, 24, 25, 26, 27, 28, 29] ?_)
 refine Sn (fun f w => ∃ (F9 : Mem), HS w0 F0 w F9 [(sb b126 (Ag r118.1 ar118_0_2 nr118_0_2) 33), (sb b29 (Ag r21.1 ar21_0_2 nr21_0_2) 33)] /\ Sh F8 F9 /\ FI f [] [(1, (pt b29 0)), (4, (.string ⟨(r34.1).toArray⟩)), (13, (vi r97.1)), (18, (pt b126 0)), (88, (.bool ((r21.2.1 != 0) || ((r34.2 != 0) || ((r42.2.1 != 0) || ((r55.2.1 != 61) || ((r97.2 != 0) || ((r105.2.1 != 0) || ((r118.2 != 0) || (r55.2.2 != 8))))))))))]) ?_ ?_
 ·refine Vs 3 ?_
  refine Sm (r21.2.1 != 0) (fun hb140 => ?_) (fun hb140 => ?_)
  ·refine Ss hb140 2 ?_
   refine Pk1 hb140 ?_
   refine Vs 1 ?_
   refine Ss (rfl : true = true) 2 ?_
   refine Pk1 (rfl : true = true) ?_
   refine Vs 1 ?_
   refine Ss (rfl : true = true) 2 ?_
   refine Pk1 (rfl : true = true) ?_
   refine Vs 1 ?_
   refine Ss (rfl : true = true) 2 ?_
   refine Pk1 (rfl : true = true) ?_
   refine Vs 1 ?_
   refine Ss (rfl : true = true) 2 ?_
   refine Pk1 (rfl : true = true) ?_
   refine Vs 1 ?_
   refine Ss (rfl : true = true) 2 ?_
   refine Pk1 (rfl : true = true) ?_
   refine Vs 1 ?_
   refine Ss (rfl : true = true) 2 ?_
   refine Pk1 (rfl : true = true) ?_
   exact Sd ⟨rfl, F8, hs130.dr1.dr1.dr1, (Si _), (fJ ⟨rfl, rfl, rfl, rfl, (congrArg Value.bool (FL hb140 rfl)), trivial⟩)⟩
  ·refine Vgs hb140 2 ?_
   refine Pk0 hb140 ?_
   refine Vs 1 ?_
   refine Sm (r34.2 != 0) (fun hb141 => ?_) (fun hb141 => ?_)
   ·refine Ss hb141 2 ?_
    refine Pk1 hb141 ?_
    refine Vs 1 ?_
    refine Ss (rfl : true = true) 2 ?_
    refine Pk1 (rfl : true = true) ?_
    refine Vs 1 ?_
    refine Ss (rfl : true = true) 2 ?_
    refine Pk1 (rfl : true = true) ?_
    refine Vs 1 ?_
    refine Ss (rfl : true = true) 2 ?_
    refine Pk1 (rfl : true = true) ?_
    refine Vs 1 ?_
    refine Ss (rfl : true = true) 2 ?_
    refine Pk1 (rfl : true = true) ?_
    refine Vs 1 ?_
    refine Ss (rfl : true = true) 2 ?_
    refine Pk1 (rfl : true = true) ?_
    exact Sd ⟨rfl, F8, hs130.dr1.dr1.dr1, (Si _), (fJ ⟨rfl, rfl, rfl, rfl, (congrArg Value.bool (BQ hb140 (FL hb141 rfl))), trivial⟩)⟩
   ·refine Vgs hb141 2 ?_
    refine Pk0 hb141 ?_
    refine Vs 1 ?_
    refine Sm (r42.2.1 != 0) (fun hb142 => ?_) (fun hb142 => ?_)
    ·refine Ss hb142 2 ?_
     refine Pk1 hb142 ?_
     refine Vs 1 ?_
     refine Ss (rfl : true = true) 2 ?_
     refine Pk1 (rfl : true = true) ?_
     refine Vs 1 ?_
     refine Ss (rfl : true = true) 2 ?_
     refine Pk1 (rfl : true = true) ?_
     refine Vs 1 ?_
     refine Ss (rfl : true = true) 2 ?_
     refine Pk1 (rfl : true = true) ?_
     refine Vs 1 ?_
     refine Ss (rfl : true = true) 2 ?_
     refine Pk1 (rfl : true = true) ?_
     exact Sd ⟨rfl, F8, hs130.dr1.dr1.dr1, (Si _), (fJ ⟨rfl, rfl, rfl, rfl, (congrArg Value.bool (BQ hb140 (BQ hb141 (FL hb142 rfl)))), trivial⟩)⟩
    ·refine Vgs hb142 2 ?_
     refine Pk0 hb142 ?_
     refine Vs 1 ?_
     refine Sm (r55.2.1 != 61) (fun hb143 => ?_) (fun hb143 => ?_)
     ·refine Ss hb143 2 ?_
      refine Pk1 hb143 ?_
      refine Vs 1 ?_
      refine Ss (rfl : true = true) 2 ?_
      refine Pk1 (rfl : true = true) ?_
      refine Vs 1 ?_
      refine Ss (rfl : true = true) 2 ?_
      refine Pk1 (rfl : true = true) ?_
      refine Vs 1 ?_
      refine Ss (rfl : true = true) 2 ?_
      refine Pk1 (rfl : true = true) ?_
      exact Sd ⟨rfl, F8, hs130.dr1.dr1.dr1, (Si _), (fJ ⟨rfl, rfl, rfl, rfl, (congrArg Value.bool (BQ hb140 (BQ hb141 (BQ hb142 (FL hb143 rfl))))), trivial⟩)⟩
     ·refine Vgs hb143 2 ?_
      refine Pk0 hb143 ?_
      refine Vs 1 ?_
      refine Sm (r97.2 != 0) (fun hb144 => ?_) (fun hb144 => ?_)
      ·refine Ss hb144 2 ?_
       refine Pk1 hb144 ?_
       refine Vs 1 ?_
       refine Ss (rfl : true = true) 2 ?_
       refine Pk1 (rfl : true = true) ?_
       refine Vs 1 ?_
       refine Ss (rfl : true = true) 2 ?_
       refine Pk1 (rfl : true = true) ?_
       exact Sd ⟨rfl, F8, hs130.dr1.dr1.dr1, (Si _), (fJ ⟨rfl, rfl, rfl, rfl, (congrArg Value.bool (BQ hb140 (BQ hb141 (BQ hb142 (BQ hb143 (FL hb144 rfl)))))), trivial⟩)⟩
      ·refine Vgs hb144 2 ?_
       refine Pk0 hb144 ?_
       refine Vs 1 ?_
       refine Sm (r105.2.1 != 0) (fun hb145 => ?_) (fun hb145 => ?_)
       ·refine Ss hb145 2 ?_
        refine Pk1 hb145 ?_
        refine Vs 1 ?_
        refine Ss (rfl : true = true) 2 ?_
        refine Pk1 (rfl : true = true) ?_
        exact Sd ⟨rfl, F8, hs130.dr1.dr1.dr1, (Si _), (fJ ⟨rfl, rfl, rfl, rfl, (congrArg Value.bool (BQ hb140 (BQ hb141 (BQ hb142 (BQ hb143 (BQ hb144 (FL hb145 rfl))))))), trivial⟩)⟩
       ·refine Vgs hb145 2 ?_
        refine Pk0 hb145 ?_
        refine Vs 1 ?_
        refine Sm (r118.2 != 0) (fun hb146 => ?_) (fun hb146 => ?_)
        ·refine Ss hb146 2 ?_
         refine Pk1 hb146 ?_
         exact Sd ⟨rfl, F8, hs130.dr1.dr1.dr1, (Si _), (fJ ⟨rfl, rfl, rfl, rfl, (congrArg Value.bool (BQ hb140 (BQ hb141 (BQ hb142 (BQ hb143 (BQ hb144 (BQ hb145 (FL hb146 rfl)))))))), trivial⟩)⟩
        ·refine Vgs hb146 2 ?_
         refine Pk0 hb146 ?_
         exact Sd ⟨rfl, F8, hs130.dr1.dr1.dr1, (Si _), (fJ ⟨rfl, rfl, rfl, rfl, (congrArg Value.bool (BQ hb140 (BQ hb141 (BQ hb142 (BQ hb143 (BQ hb144 (BQ hb145 (BQ hb146 rfl)))))))), trivial⟩)⟩
 ·rintro f w131 ⟨F9, hs132, le133, ⟨_, rfl⟩⟩
  refine Ac ?_
  refine Cd h120 (fun hb147 h148 => ?_) (fun hb147 h149 => ?_)
  ·refine Sq (Rg [0] ?_)
   refine Vs 1 ?_
   refine Nt ?_
   refine Rt ?_
   refine Ae ?_
   obtain rfl := Aa h148
   exact Re [(.bool false)] hs132 rfl
  ·refine Sc ?_
   refine Ac ?_
   refine Sq (Rg [0, 1, 2, 3, 4, 5, 6, 7, 8, 9, 10, 11, 12, 13, 14, 15, 16, 17, 18, 19, 20, 21] ?_)
   refine Sn (fun f w => ∃ (F10 : Mem), HS w0 F0 w F10 [] /\ Sh F9 F10 /\ FI f [] [(0, (.bool ((r21.1.Op == 4) && ((r34.1 == ([49, 32, 43, 32, 50, 32, 42, 32, 51, 32, 61, 32, 55, 32, 97, 110, 100, 32, 110, 111, 116, 32, 98, 97, 110, 100, 32, 60, 32, 50] : SF)) && ((r97.1 == 2) && ((r118.1.Op == 2) && (r118.1.Value == 7)))))))]) ?_ ?_
   ·refine Vs 1 ?_
    refine Ld hs132.at1 ?_
    refine Vs 2 ?_
    refine Sm (r21.1.Op == 4) (fun hb155 => ?_) (fun hb155 => ?_)
    ·refine Vgs hb155 2 ?_
     refine Pk1 hb155 ?_
     refine Vs 1 ?_
     refine Sm (r34.1 == ([49, 32, 43, 32, 50, 32, 42, 32, 51, 32, 61, 32, 55, 32, 97, 110, 100, 32, 110, 111, 116, 32, 98, 97, 110, 100, 32, 60, 32, 50] : SF)) (fun hb156 => ?_) (fun hb156 => ?_)
     ·refine Vgs hb156 2 ?_
      refine Pk1 hb156 ?_
      refine Vs 1 ?_
      refine Sm (r97.1 == 2) (fun hb157 => ?_) (fun hb157 => ?_)
      ·refine Vgs hb157 1 ?_
       refine Lg hb157 hs132.at0 ?_
       refine Vgs hb157 1 ?_
       refine Pk1 hb157 ?_
       refine Vs 1 ?_
       refine Sm (r118.1.Op == 2) (fun hb158 => ?_) (fun hb158 => ?_)
       ·refine Vgs hb158 1 ?_
        refine Lg hb158 hs132.at0 ?_
        refine Vgs hb158 1 ?_
        refine Pk1 hb158 ?_
        refine Vs 1 ?_
        exact Sd ⟨rfl, F9, hs132.dr0.dr0, (Si _), (fJ ⟨(congrArg Value.bool (BL hb155 (BL hb156 (BL hb157 (BL hb158 rfl))))), trivial⟩)⟩
       ·refine Ss hb158 3 ?_
        refine Pk0 hb158 ?_
        refine Vs 1 ?_
        exact Sd ⟨rfl, F9, hs132.dr0.dr0, (Si _), (fJ ⟨(congrArg Value.bool (BL hb155 (BL hb156 (BL hb157 (Dz hb158 rfl))))), trivial⟩)⟩
      ·refine Ss hb157 3 ?_
       refine Pk0 hb157 ?_
       refine Vs 1 ?_
       refine Ss (rfl : false = false) 3 ?_
       refine Pk0 (rfl : false = false) ?_
       refine Vs 1 ?_
       exact Sd ⟨rfl, F9, hs132.dr0.dr0, (Si _), (fJ ⟨(congrArg Value.bool (BL hb155 (BL hb156 (Dz hb157 rfl)))), trivial⟩)⟩
     ·refine Ss hb156 2 ?_
      refine Pk0 hb156 ?_
      refine Vs 1 ?_
      refine Ss (rfl : false = false) 3 ?_
      refine Pk0 (rfl : false = false) ?_
      refine Vs 1 ?_
      refine Ss (rfl : false = false) 3 ?_
      refine Pk0 (rfl : false = false) ?_
      refine Vs 1 ?_
      exact Sd ⟨rfl, F9, hs132.dr0.dr0, (Si _), (fJ ⟨(congrArg Value.bool (BL hb155 (Dz hb156 rfl))), trivial⟩)⟩
    ·refine Ss hb155 2 ?_
     refine Pk0 hb155 ?_
     refine Vs 1 ?_
     refine Ss (rfl : false = false) 2 ?_
     refine Pk0 (rfl : false = false) ?_
     refine Vs 1 ?_
     refine Ss (rfl : false = false) 3 ?_
     refine Pk0 (rfl : false = false) ?_
     refine Vs 1 ?_
     refine Ss (rfl : false = false) 3 ?_
     refine Pk0 (rfl : false = false) ?_
     refine Vs 1 ?_
     exact Sd ⟨rfl, F9, hs132.dr0.dr0, (Si _), (fJ ⟨(congrArg Value.bool (Dz hb155 rfl)), trivial⟩)⟩
   ·rintro f w150 ⟨F10, hs151, le152, ⟨_, rfl⟩⟩
    refine Ac ?_
    refine Rt ?_
    obtain rfl := Aa h149
    exact Re [(.bool ((r21.1.Op == 4) && ((r34.1 == ([49, 32, 43, 32, 50, 32, 42, 32, 51, 32, 61, 32, 55, 32, 97, 110, 100, 32, 110, 111, 116, 32, 98, 97, 110, 100, 32, 60, 32, 50] : SF)) && ((r97.1 == 2) && ((r118.1.Op == 2) && (r118.1.Value == 7))))))] hs151 rfl
set_option maxRecDepth 100000 in
theorem O4 : Iq 9223372036854775808 = some true := by kernel_rfl
def GI (_N : Nat) : Option Bool := some true
theorem K1 : Al Tryz.prog 21 := J4
theorem LK (N : Nat) (w0 : World) (F0 : Mem) (hF : SH w0 F0) (hG : B0 F0) (r : Bool) (h : GI N = some r) :
  Calls Tryz.prog 21 ([] : List Value).toArray w0 (AJ w0 F0 fun F' v => v = (.bool r)) := by
 cases h
 exact K9 9223372036854775808 w0 F0 hF hG true O4


section
variable {N : Nat} {σ : Type}
def hit (l : List Clause) (d : List QG) (k : Int) : Bool := (Rc d).any fun f => fi (isT f) l == k
noncomputable def mx (e : Expr) (d : List QG) : Int := (Rc d).foldl (fun a f => max a (val f e)) (-1000000)
end



theorem Pa (e : Expr) : 0 < sz e := by rw [MR]; omega





section
variable {N : Nat}
theorem On {e : Expr} (h : Ln e = true) : kd e ≠ 0 := by unfold Ln at h; simp at h; exact h.2
end

def Gb (N : Nat)  : Option (List SF) :=
 some [([98, 97, 110, 100] : SF), ([109, 111, 100, 101] : SF), ([104, 111, 117, 114] : SF), ([109, 121, 99, 111, 117, 110, 116, 114, 121] : SF), ([109, 121, 122, 111, 110, 101] : SF), ([109, 121, 99, 111, 110, 116, 105, 110, 101, 110, 116] : SF), ([99, 111, 117, 110, 116, 114, 121] : SF), ([122, 111, 110, 101] : SF), ([99, 111, 110, 116, 105, 110, 101, 110, 116] : SF), ([99, 97, 108, 108] : SF), ([103, 111, 116, 122, 111, 110, 101] : SF), ([99, 97, 116, 101, 103, 111, 114, 121] : SF), ([112, 111, 119, 101, 114] : SF), ([115, 116, 97, 116, 117, 115] : SF)]
theorem J2 : Al Tryz.prog 165 := fun _ _ => by kernel_rfl
theorem K7 (N : Nat) (w0 : World) (F0 : Mem) (hF : SH w0 F0)  (r : (List SF)) (h : Gb N  = some r) :
  Calls Tryz.prog 165 ([] : List Value).toArray w0 (AJ w0 F0 fun F' v => ∃ (aq0_0 : SG) (nq0_0 : Nat), v = (.slice aq0_0 r.length nq0_0) /\ LC r.length nq0_0 /\ SlA EF F' aq0_0 r) := by
 have hs0 := Sj hF
 refine Go 2 Tryz.func165 ?_
 refine Sq (Rg [0] ?_)
 refine Vs 1 ?_
 refine Nss (Rg [0, 1] ?_)
 refine Bs 9 [(.string ⟨(([98, 97, 110, 100] : SF)).toArray⟩), (.string ⟨(([109, 111, 100, 101] : SF)).toArray⟩), (.string ⟨(([104, 111, 117, 114] : SF)).toArray⟩), (.string ⟨(([109, 121, 99, 111, 117, 110, 116, 114, 121] : SF)).toArray⟩), (.string ⟨(([109, 121, 122, 111, 110, 101] : SF)).toArray⟩), (.string ⟨(([109, 121, 99, 111, 110, 116, 105, 110, 101, 110, 116] : SF)).toArray⟩), (.string ⟨(([99, 111, 117, 110, 116, 114, 121] : SF)).toArray⟩), (.string ⟨(([122, 111, 110, 101] : SF)).toArray⟩), (.string ⟨(([99, 111, 110, 116, 105, 110, 101, 110, 116] : SF)).toArray⟩), (.string ⟨(([99, 97, 108, 108] : SF)).toArray⟩), (.string ⟨(([103, 111, 116, 122, 111, 110, 101] : SF)).toArray⟩), (.string ⟨(([99, 97, 116, 101, 103, 111, 114, 121] : SF)).toArray⟩), (.string ⟨(([112, 111, 119, 101, 114] : SF)).toArray⟩), (.string ⟨(([115, 116, 97, 116, 117, 115] : SF)).toArray⟩)] hs0 (fun b21 w22 hs23 => ?_)
 have hr25 : Aw EF 9 F0 (some ⟨b21, 0, none⟩) 14 [([98, 97, 110, 100] : SF), ([109, 111, 100, 101] : SF), ([104, 111, 117, 114] : SF), ([109, 121, 99, 111, 117, 110, 116, 114, 121] : SF), ([109, 121, 122, 111, 110, 101] : SF), ([109, 121, 99, 111, 110, 116, 105, 110, 101, 110, 116] : SF), ([99, 111, 117, 110, 116, 114, 121] : SF), ([122, 111, 110, 101] : SF), ([99, 111, 110, 116, 105, 110, 101, 110, 116] : SF), ([99, 97, 108, 108] : SF), ([103, 111, 116, 122, 111, 110, 101] : SF), ([99, 97, 116, 101, 103, 111, 114, 121] : SF), ([112, 111, 119, 101, 114] : SF), ([115, 116, 97, 116, 117, 115] : SF)] (some b21, .cells ([(.string ⟨(([98, 97, 110, 100] : SF)).toArray⟩), (.string ⟨(([109, 111, 100, 101] : SF)).toArray⟩), (.string ⟨(([104, 111, 117, 114] : SF)).toArray⟩), (.string ⟨(([109, 121, 99, 111, 117, 110, 116, 114, 121] : SF)).toArray⟩), (.string ⟨(([109, 121, 122, 111, 110, 101] : SF)).toArray⟩), (.string ⟨(([109, 121, 99, 111, 110, 116, 105, 110, 101, 110, 116] : SF)).toArray⟩), (.string ⟨(([99, 111, 117, 110, 116, 114, 121] : SF)).toArray⟩), (.string ⟨(([122, 111, 110, 101] : SF)).toArray⟩), (.string ⟨(([99, 111, 110, 116, 105, 110, 101, 110, 116] : SF)).toArray⟩), (.string ⟨(([99, 97, 108, 108] : SF)).toArray⟩), (.string ⟨(([103, 111, 116, 122, 111, 110, 101] : SF)).toArray⟩), (.string ⟨(([99, 97, 116, 101, 103, 111, 114, 121] : SF)).toArray⟩), (.string ⟨(([112, 111, 119, 101, 114] : SF)).toArray⟩), (.string ⟨(([115, 116, 97, 116, 117, 115] : SF)).toArray⟩)] : List Value).toArray 9 (0, 0)) := SC ⟨rfl, ⟨rfl, ⟨rfl, ⟨rfl, ⟨rfl, ⟨rfl, ⟨rfl, ⟨rfl, ⟨rfl, ⟨rfl, ⟨rfl, ⟨rfl, ⟨rfl, ⟨rfl, rfl⟩⟩⟩⟩⟩⟩⟩⟩⟩⟩⟩⟩⟩⟩ (by simp)
 refine Vs 1 ?_
 refine Nt ?_
 refine Rt ?_
 have hb29 := SB hr25
 obtain ⟨F1, hs26, le27, hs28⟩ := hs23.fr0 hr25
 obtain rfl := Aa h
 exact Re [(.slice (some ⟨b21, 0, none⟩) [([98, 97, 110, 100] : SF), ([109, 111, 100, 101] : SF), ([104, 111, 117, 114] : SF), ([109, 121, 99, 111, 117, 110, 116, 114, 121] : SF), ([109, 121, 122, 111, 110, 101] : SF), ([109, 121, 99, 111, 110, 116, 105, 110, 101, 110, 116] : SF), ([99, 111, 117, 110, 116, 114, 121] : SF), ([122, 111, 110, 101] : SF), ([99, 111, 110, 116, 105, 110, 101, 110, 116] : SF), ([99, 97, 108, 108] : SF), ([103, 111, 116, 122, 111, 110, 101] : SF), ([99, 97, 116, 101, 103, 111, 114, 121] : SF), ([112, 111, 119, 101, 114] : SF), ([115, 116, 97, 116, 117, 115] : SF)].length 14)] hs26 ⟨(some ⟨b21, 0, none⟩), 14, rfl, hb29, hs28⟩
def DK (N : Nat) (x0 : Int) : Option Int :=
 (bif (x0 == 5) then some 1 else (bif (x0 == 4) then some 2 else (bif (x0 == 3) then some 3 else (bif (bif (x0 == 6) then (x0 == 6) else (x0 == 7)) then some 4 else (bif (bif (x0 == 8) then (x0 == 8) else (x0 == 9)) then some 5 else (bif (x0 == 10) then some 6 else some 7))))))
theorem Fy : Al Tryz.prog 167 := fun _ _ => by kernel_rfl
theorem Gg (N : Nat) (w0 : World) (F0 : Mem) (hF : SH w0 F0) (x0 : Int) (r : Int) (h : DK N x0 = some r) :
  Calls Tryz.prog 167 ([(vi x0)] : List Value).toArray w0 (AJ w0 F0 fun F' v => v = (vi r)) := by
 have hs0 := Sj hF
 refine Go 18 Tryz.func167 ?_
 refine Sq (Rg [0] ?_)
 refine Vs 1 ?_
 refine Nss ?_
 refine Sq (Rg [0] ?_)
 refine Vs 1 ?_
 refine Nt ?_
 refine Bk ?_
 refine Sq (Rg [0, 1] ?_)
 refine Vs 2 ?_
 refine Nt ?_
 refine Cd h (fun hb21 h22 => ?_) (fun hb21 h23 => ?_)
 ·refine Sq (Rg [0] ?_)
  refine Vs 1 ?_
  refine Nt ?_
  refine Rt ?_
  refine Ai ?_
  refine Ae ?_
  obtain rfl := Aa h22
  exact Re [(vi 1)] hs0 rfl
 ·refine Sq (Rg [0, 1] ?_)
  refine Vs 2 ?_
  refine Nt ?_
  refine Cd h23 (fun hb24 h25 => ?_) (fun hb24 h26 => ?_)
  ·refine Sq (Rg [0] ?_)
   refine Vs 1 ?_
   refine Nt ?_
   refine Rt ?_
   refine Ai ?_
   refine Ae ?_
   obtain rfl := Aa h25
   exact Re [(vi 2)] hs0 rfl
  ·refine Sq (Rg [0, 1] ?_)
   refine Vs 2 ?_
   refine Nt ?_
   refine Cd h26 (fun hb27 h28 => ?_) (fun hb27 h29 => ?_)
   ·refine Sq (Rg [0] ?_)
    refine Vs 1 ?_
    refine Nt ?_
    refine Rt ?_
    refine Ai ?_
    refine Ae ?_
    obtain rfl := Aa h28
    exact Re [(vi 3)] hs0 rfl
   ·refine Sq ?_
    refine Sq (Rg [0, 1] ?_)
    refine Vs 2 ?_
    refine Nt ?_
    refine So (fun f w => ∃ (F1 : Mem), HS w0 F0 w F1 [] /\ Sh F0 F1 /\ FI f [] [(3, (vi x0)), (10, (.bool (bif (x0 == 6) then (x0 == 6) else (x0 == 7))))]) ?_ ?_
    ·refine Cp (x0 == 6) (fun hb36 => ?_) (fun hb36 => ?_)
     ·refine Sc ?_
      exact .inl ⟨rfl, F0, hs0, (Si _), (fJ ⟨rfl, (congrArg Value.bool (Er hb36 rfl)), trivial⟩)⟩
     ·refine Rg [0, 1] ?_
      refine Vs 2 ?_
      refine Sd ?_
      exact .inl ⟨rfl, F0, hs0, (Si _), (fJ ⟨rfl, (congrArg Value.bool (Es hb36 rfl)), trivial⟩)⟩
    ·rintro f w30 ⟨F1, hs31, le32, ⟨_, rfl⟩⟩
     refine Ac ?_
     refine Cd h29 (fun hb37 h38 => ?_) (fun hb37 h39 => ?_)
     ·refine Sq (Rg [0] ?_)
      refine Vs 1 ?_
      refine Nt ?_
      refine Rt ?_
      refine Ai ?_
      refine Ae ?_
      obtain rfl := Aa h38
      exact Re [(vi 4)] hs31 rfl
     ·refine Sq ?_
      refine Sq (Rg [0, 1] ?_)
      refine Vs 2 ?_
      refine Nt ?_
      refine So (fun f w => ∃ (F2 : Mem), HS w0 F0 w F2 [] /\ Sh F1 F2 /\ FI f [] [(3, (vi x0)), (13, (.bool (bif (x0 == 8) then (x0 == 8) else (x0 == 9))))]) ?_ ?_
      ·refine Cp (x0 == 8) (fun hb46 => ?_) (fun hb46 => ?_)
       ·refine Sc ?_
        exact .inl ⟨rfl, F1, hs31, (Si _), (fJ ⟨rfl, (congrArg Value.bool (Er hb46 rfl)), trivial⟩)⟩
       ·refine Rg [0, 1] ?_
        refine Vs 2 ?_
        refine Sd ?_
        exact .inl ⟨rfl, F1, hs31, (Si _), (fJ ⟨rfl, (congrArg Value.bool (Es hb46 rfl)), trivial⟩)⟩
      ·rintro f w40 ⟨F2, hs41, le42, ⟨_, rfl⟩⟩
       refine Ac ?_
       refine Cd h39 (fun hb47 h48 => ?_) (fun hb47 h49 => ?_)
       ·refine Sq (Rg [0] ?_)
        refine Vs 1 ?_
        refine Nt ?_
        refine Rt ?_
        refine Ai ?_
        refine Ae ?_
        obtain rfl := Aa h48
        exact Re [(vi 5)] hs41 rfl
       ·refine Sq (Rg [0, 1] ?_)
        refine Vs 2 ?_
        refine Nt ?_
        refine Cd h49 (fun hb50 h51 => ?_) (fun hb50 h52 => ?_)
        ·refine Sq (Rg [0] ?_)
         refine Vs 1 ?_
         refine Nt ?_
         refine Rt ?_
         refine Ai ?_
         refine Ae ?_
         obtain rfl := Aa h51
         exact Re [(vi 6)] hs41 rfl
        ·refine Sc ?_
         refine Aq ?_
         refine Ac ?_
         refine Sq (Rg [0] ?_)
         refine Vs 1 ?_
         refine Nt ?_
         refine Rt ?_
         obtain rfl := Aa h52
         exact Re [(vi 7)] hs41 rfl
def Kk (sR111 : Expr -> Option SF) : Prop := ∀ (w0 : World) (F0 : Mem) (hF : SH w0 F0) (hG : B0 F0) (x0 : Expr) (a0_2 : SG) (n0_2 : Nat) (hb0_2 : LC x0.Kids.length n0_2) (hs0_2 : SlA Ao F0 a0_2 x0.Kids) (r : SF), sR111 x0 = some r -> Calls Tryz.prog 111 ([(.agg #[(.int .i64 x0.Op), (.int .i64 x0.Value), (.slice a0_2 x0.Kids.length n0_2)])] : List Value).toArray w0 (AJ w0 F0 fun F' v => v = (.string ⟨(r).toArray⟩))
theorem Bp : Al Tryz.prog 111 := fun _ _ => by kernel_rfl
def MJ (sR166 : Expr -> Int -> Option SF) : Prop := ∀ (w0 : World) (F0 : Mem) (hF : SH w0 F0) (hG : B0 F0) (x0 : Expr) (a0_2 : SG) (n0_2 : Nat) (hb0_2 : LC x0.Kids.length n0_2) (hs0_2 : SlA Ao F0 a0_2 x0.Kids) (x1 : Int) (r : SF), sR166 x0 x1 = some r -> Calls Tryz.prog 166 ([(.agg #[(.int .i64 x0.Op), (.int .i64 x0.Value), (.slice a0_2 x0.Kids.length n0_2)]), (.int .i64 x1)] : List Value).toArray w0 (AJ w0 F0 fun F' v => v = (.string ⟨(r).toArray⟩))
theorem Du : Al Tryz.prog 166 := fun _ _ => by kernel_rfl
def Cw (N : Nat) (sR111 : Expr -> Option SF) (sR166 : Expr -> Int -> Option SF) (x0 : Expr) : Option SF :=
 (bif (x0.Op == 1) then ((strconv_Itoa N x0.Value).bind fun r32 => some r32) else (bif (x0.Op == 2) then (((Gb N ).bind fun r53 => ((idx r53 x0.Value).bind fun x61 => some x61)).bind fun j48 => some j48) else (bif (x0.Op == 3) then ((idx x0.Kids 0).bind fun x78 => ((sR166 x78 3).bind fun r92 => ((A3 ([110, 111, 116, 32] : SF) r92).bind fun r100 => some r100))) else (bif (bif (x0.Op == 6) then (x0.Op == 6) else (x0.Op == 7)) then (((idx x0.Kids 0).bind fun x125 => ((idx [([] : SF), ([] : SF), ([] : SF), ([] : SF), ([32, 97, 110, 100, 32] : SF), ([32, 111, 114, 32] : SF), ([32, 61, 32] : SF), ([32, 60, 32] : SF), ([32, 43, 32] : SF), ([32, 45, 32] : SF), ([32, 42, 32] : SF)] x0.Op).bind fun x139 => ((idx x0.Kids 1).bind fun x150 => ((sR166 x125 5).bind fun r156 => ((A3 r156 x139).bind fun r164 => ((sR166 x150 5).bind fun r167 => ((A3 r164 r167).bind fun r175 => some r175))))))).bind fun j120 => some j120) else (bif (x0.Op == 11) then (((idx x0.Kids 0).bind fun x191 => ((idx x0.Kids 1).bind fun x205 => ((idx x0.Kids 2).bind fun x211 => ((sR111 x191).bind fun r217 => ((A3 ([105, 102, 40] : SF) r217).bind fun r225 => ((A3 r225 ([44, 32] : SF)).bind fun r228 => ((sR111 x205).bind fun r231 => ((A3 r228 r231).bind fun r239 => ((A3 r239 ([44, 32] : SF)).bind fun r242 => ((sR111 x211).bind fun r245 => ((A3 r242 r245).bind fun r253 => ((A3 r253 ([41] : SF)).bind fun r256 => some r256)))))))))))).bind fun j186 => some j186) else (((idx x0.Kids 0).bind fun x269 => ((idx [([] : SF), ([] : SF), ([] : SF), ([] : SF), ([32, 97, 110, 100, 32] : SF), ([32, 111, 114, 32] : SF), ([32, 61, 32] : SF), ([32, 60, 32] : SF), ([32, 43, 32] : SF), ([32, 45, 32] : SF), ([32, 42, 32] : SF)] x0.Op).bind fun x283 => ((idx x0.Kids 1).bind fun x294 => ((DK N x0.Op).bind fun r300 => ((sR166 x269 r300).bind fun r308 => ((A3 r308 x283).bind fun r316 => ((DK N x0.Op).bind fun r319 => ((sR166 x294 (W64 (r319 + 1))).bind fun r327 => ((A3 r316 r327).bind fun r335 => some r335))))))))).bind fun j264 => some j264))))))
theorem Le (N : Nat) (sR111 : Expr -> Option SF) (hsR111 : Kk sR111) (sR166 : Expr -> Int -> Option SF) (hsR166 : MJ sR166) (w0 : World) (F0 : Mem) (hF : SH w0 F0) (hG : B0 F0) (x0 : Expr) (a0_2 : SG) (n0_2 : Nat) (hb0_2 : LC x0.Kids.length n0_2) (hs0_2 : SlA Ao F0 a0_2 x0.Kids) (r : SF) (h : Cw N sR111 sR166 x0 = some r) :
  Calls Tryz.prog 111 ([(.agg (Ag x0 a0_2 n0_2))] : List Value).toArray w0 (AJ w0 F0 fun F' v => v = (.string ⟨(r).toArray⟩)) := by
 have hs0 := Sj hF
 refine Go 94 Tryz.func111 ?_
 refine Sq (Rg [0, 1] ?_)
 refine Bx' 33 (Ag x0 a0_2 n0_2) hs0 (fun b21 w22 hs23 => ?_)
 refine Vs 1 ?_
 refine Nss (Rg [0, 1] ?_)
 refine Bs 9 [(.string ⟨(([] : SF)).toArray⟩), (.string ⟨(([] : SF)).toArray⟩), (.string ⟨(([] : SF)).toArray⟩), (.string ⟨(([] : SF)).toArray⟩), (.string ⟨(([32, 97, 110, 100, 32] : SF)).toArray⟩), (.string ⟨(([32, 111, 114, 32] : SF)).toArray⟩), (.string ⟨(([32, 61, 32] : SF)).toArray⟩), (.string ⟨(([32, 60, 32] : SF)).toArray⟩), (.string ⟨(([32, 43, 32] : SF)).toArray⟩), (.string ⟨(([32, 45, 32] : SF)).toArray⟩), (.string ⟨(([32, 42, 32] : SF)).toArray⟩)] hs23 (fun b24 w25 hs26 => ?_)
 have hr28 : Aw EF 9 F0 (some ⟨b24, 0, none⟩) 11 [([] : SF), ([] : SF), ([] : SF), ([] : SF), ([32, 97, 110, 100, 32] : SF), ([32, 111, 114, 32] : SF), ([32, 61, 32] : SF), ([32, 60, 32] : SF), ([32, 43, 32] : SF), ([32, 45, 32] : SF), ([32, 42, 32] : SF)] (some b24, .cells ([(.string ⟨(([] : SF)).toArray⟩), (.string ⟨(([] : SF)).toArray⟩), (.string ⟨(([] : SF)).toArray⟩), (.string ⟨(([] : SF)).toArray⟩), (.string ⟨(([32, 97, 110, 100, 32] : SF)).toArray⟩), (.string ⟨(([32, 111, 114, 32] : SF)).toArray⟩), (.string ⟨(([32, 61, 32] : SF)).toArray⟩), (.string ⟨(([32, 60, 32] : SF)).toArray⟩), (.string ⟨(([32, 43, 32] : SF)).toArray⟩), (.string ⟨(([32, 45, 32] : SF)).toArray⟩), (.string ⟨(([32, 42, 32] : SF)).toArray⟩)] : List Value).toArray 9 (0, 0)) := SC ⟨rfl, ⟨rfl, ⟨rfl, ⟨rfl, ⟨rfl, ⟨rfl, ⟨rfl, ⟨rfl, ⟨rfl, ⟨rfl, ⟨rfl, rfl⟩⟩⟩⟩⟩⟩⟩⟩⟩⟩⟩ (by simp)
 refine Vs 1 ?_
 refine Nss ?_
 refine Sq (Rg [0, 1] ?_)
 refine Vs 1 ?_
 refine Ld hs26.at1 ?_
 refine Nt ?_
 refine Bk ?_
 refine Sq (Rg [0, 1] ?_)
 refine Vs 2 ?_
 refine Nt ?_
 refine Cd h (fun hb29 h30 => ?_) (fun hb29 h31 => ?_)
 ·refine Sq (Rg [0, 1, 2, 3] ?_)
  refine Vs 1 ?_
  refine Ld hs26.at1 ?_
  obtain ⟨r32, hr33, h34⟩ := bind_some h30
  refine Cl' Gm hs26 (G7 N w25 F0 hs26.pers hG x0.Value _ hr33) ?_
  rintro _ F1 w36 hs37 le38 rfl
  refine Vs 1 ?_
  refine Nt ?_
  refine Rt ?_
  refine Ai ?_
  refine Ae ?_
  obtain rfl := Aa h34
  exact Re [(.string ⟨(r32).toArray⟩)] hs37 rfl
 ·refine Sq (Rg [0, 1] ?_)
  refine Vs 2 ?_
  refine Nt ?_
  refine Cd h31 (fun hb40 h41 => ?_) (fun hb40 h42 => ?_)
  ·refine Sq ?_
   obtain ⟨j48, hj51, h52⟩ := bind_some h41
   refine RD 6 6 [(some b24, .cells ([(.string ⟨(([] : SF)).toArray⟩), (.string ⟨(([] : SF)).toArray⟩), (.string ⟨(([] : SF)).toArray⟩), (.string ⟨(([] : SF)).toArray⟩), (.string ⟨(([32, 97, 110, 100, 32] : SF)).toArray⟩), (.string ⟨(([32, 111, 114, 32] : SF)).toArray⟩), (.string ⟨(([32, 61, 32] : SF)).toArray⟩), (.string ⟨(([32, 60, 32] : SF)).toArray⟩), (.string ⟨(([32, 43, 32] : SF)).toArray⟩), (.string ⟨(([32, 45, 32] : SF)).toArray⟩), (.string ⟨(([32, 42, 32] : SF)).toArray⟩)] : List Value).toArray 9 (0, 0)), (sb b21 (Ag x0 a0_2 n0_2) 33)] [] hs26 (fun f w => ∃ (F2 : Mem), HS w0 F0 w F2 [] /\ Sh F0 F2 /\ FI f [] [(2, (.string ⟨(j48).toArray⟩))]) (fun wd43 hw44 => ?_) ?_
   ·refine Dv [1] ?_
    refine Dl 2 (fun _ hq => (hq.1.2 1 _ _ rfl)) ?_
    refine D1 0 ?_
    obtain ⟨r53, hr54, h55⟩ := bind_some hj51
    refine DCl J2 hw44 (K7 N wd43 F0 hw44.pers  _ hr54) ?_
    rintro _ F3 w57 hs58 le59 ⟨ar53_0_0, nr53_0_0, rfl, hbr53_0_0, hsr53_0_0⟩
    obtain ⟨x61, hx62, h64⟩ := bind_some h55
    obtain ⟨hi63, hx62'⟩ := Ap hx62
    obtain ⟨b65, o66, C67, E68, fz69, rfl, hF71, hE72⟩ := Su hsr53_0_0 hx62'
    have hc74 := hE72 _ _ hx62'
    refine Di 3 hi63 ?_
    refine D1 4 ?_
    refine Sy (l' := [true, true, true, true, true, false]) (zd := true) (by kernel_rfl) (by kernel_rfl) (dst := (some 18)) (ty := 9) (g := none) (by kernel_rfl) rfl (Hj (t := 9) (x := (.tmp 17)) (b := b65) (o := (o66 + (x0.Value : Int).toNat * 1)) (j := 0) (C := C67) (kk := 1) (cs := [(.string ⟨(x61).toArray⟩)]) (gg := false) (s := 1) (v := (.string ⟨(x61).toArray⟩)) rfl (by kernel_rfl) (hs58.pers _ _ hF71) hc74 (by decide) (by exact ⟨rfl, trivial⟩) rfl rfl) (Bu hs58 le59 (by simp) (fun e => by cases e)) ?_
    refine Dv [5] ?_
    obtain rfl := Aa h64
    exact SA (by kernel_rfl) ⟨F3, hs58.dr0.dr0, le59, fI⟩
   ·rintro f w45 ⟨F2, hs46, le47, ⟨_, rfl⟩⟩
    refine Ac ?_
    refine Rt ?_
    refine Ai ?_
    refine Ae ?_
    obtain rfl := Aa h52
    exact Re [(.string ⟨(j48).toArray⟩)] hs46 rfl
  ·refine Sq (Rg [0, 1] ?_)
   refine Vs 2 ?_
   refine Nt ?_
   refine Cd h42 (fun hb75 h76 => ?_) (fun hb75 h77 => ?_)
   ·refine Sq (Rg [0, 1, 2, 3, 4, 5, 6] ?_)
    refine Vs 1 ?_
    refine Ld hs26.at1 ?_
    obtain ⟨x78, hx79, h81⟩ := bind_some h76
    obtain ⟨hi80, hx79'⟩ := Ap hx79
    obtain ⟨b82, o83, C84, E85, fz86, rfl, hF88, hE89⟩ := Su hs0_2 hx79'
    obtain ⟨ae90_2, ne90_2, hc91, hbe90_2, hse90_2⟩ := (Az (hE89 _ _ hx79'))
    refine Ix hi80 ?_
    refine Lx 0 (hs26.pers _ _ hF88) hc91 ?_
    obtain ⟨r92, hr93, h94⟩ := bind_some h81
    refine Cl' Du hs26 (hsR166 w25 F0 hs26.pers hG x78 ae90_2 ne90_2 hbe90_2 hse90_2 3 _ hr93) ?_
    rintro _ F4 w96 hs97 le98 rfl
    obtain ⟨r100, hr101, h102⟩ := bind_some h94
    refine V 26 9 (AD (t := 9) (t' := 9) (x := (.const (.string ⟨([110, 111, 116, 32] : SF).toArray⟩))) (y := (.tmp 25)) (a := ([110, 111, 116, 32] : SF)) (b := r92) (v := r100) rfl rfl hr101) ?_
    refine Vs 1 ?_
    refine Nt ?_
    refine Rt ?_
    refine Ai ?_
    refine Ae ?_
    obtain rfl := Aa h102
    exact Re [(.string ⟨(r100).toArray⟩)] hs97 rfl
   ·refine Sq ?_
    refine Sq (Rg [0, 1] ?_)
    refine Vs 2 ?_
    refine Nt ?_
    refine So (fun f w => ∃ (F5 : Mem), HS w0 F0 w F5 [(some b24, .cells ([(.string ⟨(([] : SF)).toArray⟩), (.string ⟨(([] : SF)).toArray⟩), (.string ⟨(([] : SF)).toArray⟩), (.string ⟨(([] : SF)).toArray⟩), (.string ⟨(([32, 97, 110, 100, 32] : SF)).toArray⟩), (.string ⟨(([32, 111, 114, 32] : SF)).toArray⟩), (.string ⟨(([32, 61, 32] : SF)).toArray⟩), (.string ⟨(([32, 60, 32] : SF)).toArray⟩), (.string ⟨(([32, 43, 32] : SF)).toArray⟩), (.string ⟨(([32, 45, 32] : SF)).toArray⟩), (.string ⟨(([32, 42, 32] : SF)).toArray⟩)] : List Value).toArray 9 (0, 0)), (sb b21 (Ag x0 a0_2 n0_2) 33)] /\ Sh F0 F5 /\ FI f [] [(1, (pt b21 0)), (3, (.slice (some ⟨b24, 0, none⟩) [([] : SF), ([] : SF), ([] : SF), ([] : SF), ([32, 97, 110, 100, 32] : SF), ([32, 111, 114, 32] : SF), ([32, 61, 32] : SF), ([32, 60, 32] : SF), ([32, 43, 32] : SF), ([32, 45, 32] : SF), ([32, 42, 32] : SF)].length 11)), (6, (vi x0.Op)), (27, (.bool (bif (x0.Op == 6) then (x0.Op == 6) else (x0.Op == 7))))]) ?_ ?_
    ·refine Cp (x0.Op == 6) (fun hb111 => ?_) (fun hb111 => ?_)
     ·refine Sc ?_
      exact .inl ⟨rfl, F0, hs26, (Si _), (fJ ⟨rfl, rfl, rfl, (congrArg Value.bool (Er hb111 rfl)), trivial⟩)⟩
     ·refine Rg [0, 1] ?_
      refine Vs 2 ?_
      refine Sd ?_
      exact .inl ⟨rfl, F0, hs26, (Si _), (fJ ⟨rfl, rfl, rfl, (congrArg Value.bool (Es hb111 rfl)), trivial⟩)⟩
    ·rintro f w103 ⟨F5, hs104, le105, ⟨_, rfl⟩⟩
     refine Ac ?_
     refine Cd h77 (fun hb112 h113 => ?_) (fun hb112 h114 => ?_)
     ·refine Sq ?_
      obtain ⟨j120, hj123, h124⟩ := bind_some h113
      refine RD 18 18 [(some b24, .cells ([(.string ⟨(([] : SF)).toArray⟩), (.string ⟨(([] : SF)).toArray⟩), (.string ⟨(([] : SF)).toArray⟩), (.string ⟨(([] : SF)).toArray⟩), (.string ⟨(([32, 97, 110, 100, 32] : SF)).toArray⟩), (.string ⟨(([32, 111, 114, 32] : SF)).toArray⟩), (.string ⟨(([32, 61, 32] : SF)).toArray⟩), (.string ⟨(([32, 60, 32] : SF)).toArray⟩), (.string ⟨(([32, 43, 32] : SF)).toArray⟩), (.string ⟨(([32, 45, 32] : SF)).toArray⟩), (.string ⟨(([32, 42, 32] : SF)).toArray⟩)] : List Value).toArray 9 (0, 0)), (sb b21 (Ag x0 a0_2 n0_2) 33)] [] hs104 (fun f w => ∃ (F6 : Mem), HS w0 F0 w F6 [] /\ Sh F5 F6 /\ FI f [] [(2, (.string ⟨(j120).toArray⟩))]) (fun wd115 hw116 => ?_) ?_
      ·refine Dvl [0] [tt, ff, ff, ff, ff, ff, ff, ff, ff, ff, ff, ff, ff, ff, ff, ff, ff, ff] ?_
       refine Dl 1 (fun _ hq => (hq.1.2 1 _ _ rfl)) ?_
       obtain ⟨x125, hx126, h128⟩ := bind_some hj123
       obtain ⟨hi127, hx126'⟩ := Ap hx126
       obtain ⟨b129, o130, C131, E132, fz133, rfl, hF135, hE136⟩ := Su (Sk hs0_2 le105) hx126'
       obtain ⟨ae137_2, ne137_2, hc138, hbe137_2, hse137_2⟩ := (Az (hE136 _ _ hx126'))
       refine Di 2 hi127 ?_
       refine Dx 3 0 (fun _ hq => hq.1.1 _ _ hF135) hc138 ?_
       refine Dvl [5, 6] [tt, tt, tt, tt, ff, tt, tt, ff, ff, ff, ff, ff, ff, ff, ff, ff, ff, ff] ?_
       refine Dl 7 (fun _ hq => (hq.1.2 1 _ _ rfl)) ?_
       obtain ⟨x139, hx140, h142⟩ := bind_some h128
       obtain ⟨hi141, hx140'⟩ := Ap hx140
       obtain ⟨b143, C144, ha145, he146, hE147⟩ := SD (hr28.mono le105) hx140'
       cases ha145
       cases he146
       have hc149 := hE147 _ _ hx140'
       refine Dj 8 hi141 ?_
       refine Dx 9 0 (fun _ hq => (hq.1.2 0 _ _ rfl)) hc149 ?_
       refine Dvl [11] [tt, tt, tt, tt, ff, tt, tt, tt, tt, tt, ff, tt, ff, ff, ff, ff, ff, ff] ?_
       refine Dl 12 (fun _ hq => (hq.1.2 1 _ _ rfl)) ?_
       obtain ⟨x150, hx151, h153⟩ := bind_some h142
       obtain ⟨hi152, hx151'⟩ := Ap hx151
       obtain ⟨ae154_2, ne154_2, hc155, hbe154_2, hse154_2⟩ := (Az (hE136 _ _ hx151'))
       refine Di 13 hi152 ?_
       refine Dx 14 0 (fun _ hq => hq.1.1 _ _ hF135) hc155 ?_
       refine D1 4 ?_
       obtain ⟨r156, hr157, h158⟩ := bind_some h153
       refine DCl Du hw116 (hsR166 wd115 F5 hw116.pers (hG.mono le105) x125 ae137_2 ne137_2 hbe137_2 hse137_2 5 _ hr157) ?_
       rintro _ F7 w160 hs161 le162 rfl
       obtain ⟨r164, hr165, h166⟩ := bind_some h158
       refine Dt 10 40 9 (.string ⟨(r164).toArray⟩) (fun _ hq => AD (t := 9) (t' := 9) (x := (.tmp 34)) (y := (.tmp 39)) (a := r156) (b := x139) (v := r164) rfl rfl hr165) ?_
       refine D1 15 ?_
       obtain ⟨r167, hr168, h169⟩ := bind_some h166
       refine DCl Du hs161 (hsR166 w160 F7 hs161.pers (hG.mono (le105.trans le162)) x150 ae154_2 ne154_2 hbe154_2 (Sk hse154_2 le162) 5 _ hr168) ?_
       rintro _ F8 w171 hs172 le173 rfl
       obtain ⟨r175, hr176, h177⟩ := bind_some h169
       refine Dt 16 46 9 (.string ⟨(r175).toArray⟩) (fun _ hq => AD (t := 9) (t' := 9) (x := (.tmp 40)) (y := (.tmp 45)) (a := r164) (b := r167) (v := r175) rfl rfl hr176) ?_
       refine Dvl [17] [tt, tt, tt, tt, tt, tt, tt, tt, tt, tt, tt, tt, tt, tt, tt, tt, tt, tt] ?_
       obtain rfl := Aa h177
       exact SA (by kernel_rfl) ⟨F8, hs172.dr0.dr0, (le162.trans le173), fI⟩
      ·rintro f w117 ⟨F6, hs118, le119, ⟨_, rfl⟩⟩
       refine Ac ?_
       refine Rt ?_
       refine Ai ?_
       refine Ae ?_
       obtain rfl := Aa h124
       exact Re [(.string ⟨(j120).toArray⟩)] hs118 rfl
     ·refine Sq (Rg [0, 1] ?_)
      refine Vs 2 ?_
      refine Nt ?_
      refine Cd h114 (fun hb178 h179 => ?_) (fun hb178 h180 => ?_)
      ·refine Sq ?_
       obtain ⟨j186, hj189, h190⟩ := bind_some h179
       refine RD 22 22 [(some b24, .cells ([(.string ⟨(([] : SF)).toArray⟩), (.string ⟨(([] : SF)).toArray⟩), (.string ⟨(([] : SF)).toArray⟩), (.string ⟨(([] : SF)).toArray⟩), (.string ⟨(([32, 97, 110, 100, 32] : SF)).toArray⟩), (.string ⟨(([32, 111, 114, 32] : SF)).toArray⟩), (.string ⟨(([32, 61, 32] : SF)).toArray⟩), (.string ⟨(([32, 60, 32] : SF)).toArray⟩), (.string ⟨(([32, 43, 32] : SF)).toArray⟩), (.string ⟨(([32, 45, 32] : SF)).toArray⟩), (.string ⟨(([32, 42, 32] : SF)).toArray⟩)] : List Value).toArray 9 (0, 0)), (sb b21 (Ag x0 a0_2 n0_2) 33)] [] hs104 (fun f w => ∃ (F9 : Mem), HS w0 F0 w F9 [] /\ Sh F5 F9 /\ FI f [] [(2, (.string ⟨(j186).toArray⟩))]) (fun wd181 hw182 => ?_) ?_
       ·refine Dvl [0] [tt, ff, ff, ff, ff, ff, ff, ff, ff, ff, ff, ff, ff, ff, ff, ff, ff, ff, ff, ff, ff, ff] ?_
        refine Dl 1 (fun _ hq => (hq.1.2 1 _ _ rfl)) ?_
        obtain ⟨x191, hx192, h194⟩ := bind_some hj189
        obtain ⟨hi193, hx192'⟩ := Ap hx192
        obtain ⟨b195, o196, C197, E198, fz199, rfl, hF201, hE202⟩ := Su (Sk hs0_2 le105) hx192'
        obtain ⟨ae203_2, ne203_2, hc204, hbe203_2, hse203_2⟩ := (Az (hE202 _ _ hx192'))
        refine Di 2 hi193 ?_
        refine Dx 3 0 (fun _ hq => hq.1.1 _ _ hF201) hc204 ?_
        refine Dvl [7] [tt, tt, tt, tt, ff, ff, ff, tt, ff, ff, ff, ff, ff, ff, ff, ff, ff, ff, ff, ff, ff, ff] ?_
        refine Dl 8 (fun _ hq => (hq.1.2 1 _ _ rfl)) ?_
        obtain ⟨x205, hx206, h208⟩ := bind_some h194
        obtain ⟨hi207, hx206'⟩ := Ap hx206
        obtain ⟨ae209_2, ne209_2, hc210, hbe209_2, hse209_2⟩ := (Az (hE202 _ _ hx206'))
        refine Di 9 hi207 ?_
        refine Dx 10 0 (fun _ hq => hq.1.1 _ _ hF201) hc210 ?_
        refine Dvl [14] [tt, tt, tt, tt, ff, ff, ff, tt, tt, tt, tt, ff, ff, ff, tt, ff, ff, ff, ff, ff, ff, ff] ?_
        refine Dl 15 (fun _ hq => (hq.1.2 1 _ _ rfl)) ?_
        obtain ⟨x211, hx212, h214⟩ := bind_some h208
        obtain ⟨hi213, hx212'⟩ := Ap hx212
        obtain ⟨ae215_2, ne215_2, hc216, hbe215_2, hse215_2⟩ := (Az (hE202 _ _ hx212'))
        refine Di 16 hi213 ?_
        refine Dx 17 0 (fun _ hq => hq.1.1 _ _ hF201) hc216 ?_
        refine D1 4 ?_
        obtain ⟨r217, hr218, h219⟩ := bind_some h214
        refine DCl Bp hw182 (hsR111 wd181 F5 hw182.pers (hG.mono le105) x191 ae203_2 ne203_2 hbe203_2 hse203_2 _ hr218) ?_
        rintro _ F10 w221 hs222 le223 rfl
        obtain ⟨r225, hr226, h227⟩ := bind_some h219
        refine Dtl 5 54 9 (.string ⟨(r225).toArray⟩) [tt, tt, tt, tt, tt, tt, ff, tt, tt, tt, tt, ff, ff, ff, tt, tt, tt, tt, ff, ff, ff, ff] (fun _ hq => AD (t := 9) (t' := 9) (x := (.const (.string ⟨([105, 102, 40] : SF).toArray⟩))) (y := (.tmp 53)) (a := ([105, 102, 40] : SF)) (b := r217) (v := r225) rfl rfl hr226) ?_
        obtain ⟨r228, hr229, h230⟩ := bind_some h227
        refine Dtl 6 55 9 (.string ⟨(r228).toArray⟩) [tt, tt, tt, tt, tt, tt, tt, tt, tt, tt, tt, ff, ff, ff, tt, tt, tt, tt, ff, ff, ff, ff] (fun _ hq => AD (t := 9) (t' := 9) (x := (.tmp 54)) (y := (.const (.string ⟨([44, 32] : SF).toArray⟩))) (a := r225) (b := ([44, 32] : SF)) (v := r228) rfl rfl hr229) ?_
        refine D1 11 ?_
        obtain ⟨r231, hr232, h233⟩ := bind_some h230
        refine DCl Bp hs222 (hsR111 w221 F10 hs222.pers (hG.mono (le105.trans le223)) x205 ae209_2 ne209_2 hbe209_2 (Sk hse209_2 le223) _ hr232) ?_
        rintro _ F11 w235 hs236 le237 rfl
        obtain ⟨r239, hr240, h241⟩ := bind_some h233
        refine Dtl 12 61 9 (.string ⟨(r239).toArray⟩) [tt, tt, tt, tt, tt, tt, tt, tt, tt, tt, tt, tt, tt, ff, tt, tt, tt, tt, ff, ff, ff, ff] (fun _ hq => AD (t := 9) (t' := 9) (x := (.tmp 55)) (y := (.tmp 60)) (a := r228) (b := r231) (v := r239) rfl rfl hr240) ?_
        obtain ⟨r242, hr243, h244⟩ := bind_some h241
        refine Dtl 13 62 9 (.string ⟨(r242).toArray⟩) [tt, tt, tt, tt, tt, tt, tt, tt, tt, tt, tt, tt, tt, tt, tt, tt, tt, tt, ff, ff, ff, ff] (fun _ hq => AD (t := 9) (t' := 9) (x := (.tmp 61)) (y := (.const (.string ⟨([44, 32] : SF).toArray⟩))) (a := r239) (b := ([44, 32] : SF)) (v := r242) rfl rfl hr243) ?_
        refine D1 18 ?_
        obtain ⟨r245, hr246, h247⟩ := bind_some h244
        refine DCl Bp hs236 (hsR111 w235 F11 hs236.pers (hG.mono ((le105.trans le223).trans le237)) x211 ae215_2 ne215_2 hbe215_2 (Sk hse215_2 (le223.trans le237)) _ hr246) ?_
        rintro _ F12 w249 hs250 le251 rfl
        obtain ⟨r253, hr254, h255⟩ := bind_some h247
        refine Dtl 19 68 9 (.string ⟨(r253).toArray⟩) [tt, tt, tt, tt, tt, tt, tt, tt, tt, tt, tt, tt, tt, tt, tt, tt, tt, tt, tt, tt, ff, ff] (fun _ hq => AD (t := 9) (t' := 9) (x := (.tmp 62)) (y := (.tmp 67)) (a := r242) (b := r245) (v := r253) rfl rfl hr254) ?_
        obtain ⟨r256, hr257, h258⟩ := bind_some h255
        refine Dtl 20 69 9 (.string ⟨(r256).toArray⟩) [tt, tt, tt, tt, tt, tt, tt, tt, tt, tt, tt, tt, tt, tt, tt, tt, tt, tt, tt, tt, tt, ff] (fun _ hq => AD (t := 9) (t' := 9) (x := (.tmp 68)) (y := (.const (.string ⟨([41] : SF).toArray⟩))) (a := r253) (b := ([41] : SF)) (v := r256) rfl rfl hr257) ?_
        refine Dvl [21] [tt, tt, tt, tt, tt, tt, tt, tt, tt, tt, tt, tt, tt, tt, tt, tt, tt, tt, tt, tt, tt, tt] ?_
        obtain rfl := Aa h258
        exact SA (by kernel_rfl) ⟨F12, hs250.dr0.dr0, ((le223.trans le237).trans le251), fI⟩
       ·rintro f w183 ⟨F9, hs184, le185, ⟨_, rfl⟩⟩
        refine Ac ?_
        refine Rt ?_
        refine Ai ?_
        refine Ae ?_
        obtain rfl := Aa h190
        exact Re [(.string ⟨(j186).toArray⟩)] hs184 rfl
      ·refine Sc ?_
       refine Aq ?_
       refine Ac ?_
       refine Sq ?_
       obtain ⟨j264, hj267, h268⟩ := bind_some h180
       refine RD 25 25 [(some b24, .cells ([(.string ⟨(([] : SF)).toArray⟩), (.string ⟨(([] : SF)).toArray⟩), (.string ⟨(([] : SF)).toArray⟩), (.string ⟨(([] : SF)).toArray⟩), (.string ⟨(([32, 97, 110, 100, 32] : SF)).toArray⟩), (.string ⟨(([32, 111, 114, 32] : SF)).toArray⟩), (.string ⟨(([32, 61, 32] : SF)).toArray⟩), (.string ⟨(([32, 60, 32] : SF)).toArray⟩), (.string ⟨(([32, 43, 32] : SF)).toArray⟩), (.string ⟨(([32, 45, 32] : SF)).toArray⟩), (.string ⟨(([32, 42, 32] : SF)).toArray⟩)] : List Value).toArray 9 (0, 0)), (sb b21 (Ag x0 a0_2 n0_2) 33)] [] hs104 (fun f w => ∃ (F13 : Mem), HS w0 F0 w F13 [] /\ Sh F5 F13 /\ FI f [] [(2, (.string ⟨(j264).toArray⟩))]) (fun wd259 hw260 => ?_) ?_
       ·refine Dvl [0] [tt, ff, ff, ff, ff, ff, ff, ff, ff, ff, ff, ff, ff, ff, ff, ff, ff, ff, ff, ff, ff, ff, ff, ff, ff] ?_
        refine Dl 1 (fun _ hq => (hq.1.2 1 _ _ rfl)) ?_
        obtain ⟨x269, hx270, h272⟩ := bind_some hj267
        obtain ⟨hi271, hx270'⟩ := Ap hx270
        obtain ⟨b273, o274, C275, E276, fz277, rfl, hF279, hE280⟩ := Su (Sk hs0_2 le105) hx270'
        obtain ⟨ae281_2, ne281_2, hc282, hbe281_2, hse281_2⟩ := (Az (hE280 _ _ hx270'))
        refine Di 2 hi271 ?_
        refine Dx 3 0 (fun _ hq => hq.1.1 _ _ hF279) hc282 ?_
        refine Dvl [4] [tt, tt, tt, tt, tt, ff, ff, ff, ff, ff, ff, ff, ff, ff, ff, ff, ff, ff, ff, ff, ff, ff, ff, ff, ff] ?_
        refine Dl 5 (fun _ hq => (hq.1.2 1 _ _ rfl)) ?_
        refine Dvl [8, 9] [tt, tt, tt, tt, tt, tt, ff, ff, tt, tt, ff, ff, ff, ff, ff, ff, ff, ff, ff, ff, ff, ff, ff, ff, ff] ?_
        refine Dl 10 (fun _ hq => (hq.1.2 1 _ _ rfl)) ?_
        obtain ⟨x283, hx284, h286⟩ := bind_some h272
        obtain ⟨hi285, hx284'⟩ := Ap hx284
        obtain ⟨b287, C288, ha289, he290, hE291⟩ := SD (hr28.mono le105) hx284'
        cases ha289
        cases he290
        have hc293 := hE291 _ _ hx284'
        refine Dj 11 hi285 ?_
        refine Dx 12 0 (fun _ hq => (hq.1.2 0 _ _ rfl)) hc293 ?_
        refine Dvl [14] [tt, tt, tt, tt, tt, tt, ff, ff, tt, tt, tt, tt, tt, ff, tt, ff, ff, ff, ff, ff, ff, ff, ff, ff, ff] ?_
        refine Dl 15 (fun _ hq => (hq.1.2 1 _ _ rfl)) ?_
        obtain ⟨x294, hx295, h297⟩ := bind_some h286
        obtain ⟨hi296, hx295'⟩ := Ap hx295
        obtain ⟨ae298_2, ne298_2, hc299, hbe298_2, hse298_2⟩ := (Az (hE280 _ _ hx295'))
        refine Di 16 hi296 ?_
        refine Dx 17 0 (fun _ hq => hq.1.1 _ _ hF279) hc299 ?_
        refine Dvl [18] [tt, tt, tt, tt, tt, tt, ff, ff, tt, tt, tt, tt, tt, ff, tt, tt, tt, tt, tt, ff, ff, ff, ff, ff, ff] ?_
        refine Dl 19 (fun _ hq => (hq.1.2 1 _ _ rfl)) ?_
        refine D1 6 ?_
        obtain ⟨r300, hr301, h302⟩ := bind_some h297
        refine DCl Fy hw260 (Gg N wd259 F5 hw260.pers x0.Op _ hr301) ?_
        rintro _ F14 w304 hs305 le306 rfl
        refine D1 7 ?_
        obtain ⟨r308, hr309, h310⟩ := bind_some h302
        refine DCl Du hs305 (hsR166 w304 F14 hs305.pers (hG.mono (le105.trans le306)) x269 ae281_2 ne281_2 hbe281_2 (Sk hse281_2 le306) r300 _ hr309) ?_
        rintro _ F15 w312 hs313 le314 rfl
        obtain ⟨r316, hr317, h318⟩ := bind_some h310
        refine Dtl 13 83 9 (.string ⟨(r316).toArray⟩) [tt, tt, tt, tt, tt, tt, tt, tt, tt, tt, tt, tt, tt, tt, tt, tt, tt, tt, tt, tt, ff, ff, ff, ff, ff] (fun _ hq => AD (t := 9) (t' := 9) (x := (.tmp 77)) (y := (.tmp 82)) (a := r308) (b := x283) (v := r316) rfl rfl hr317) ?_
        refine D1 20 ?_
        obtain ⟨r319, hr320, h321⟩ := bind_some h318
        refine DCl Fy hs313 (Gg N w312 F15 hs313.pers x0.Op _ hr320) ?_
        rintro _ F16 w323 hs324 le325 rfl
        refine Dvl [21] [tt, tt, tt, tt, tt, tt, tt, tt, tt, tt, tt, tt, tt, tt, tt, tt, tt, tt, tt, tt, tt, tt, ff, ff, ff] ?_
        refine D1 22 ?_
        obtain ⟨r327, hr328, h329⟩ := bind_some h321
        refine DCl Du hs324 (hsR166 w323 F16 hs324.pers (hG.mono (((le105.trans le306).trans le314).trans le325)) x294 ae298_2 ne298_2 hbe298_2 (Sk hse298_2 ((le306.trans le314).trans le325)) ((W64 (r319 + 1))) _ hr328) ?_
        rintro _ F17 w331 hs332 le333 rfl
        obtain ⟨r335, hr336, h337⟩ := bind_some h329
        refine Dtl 23 93 9 (.string ⟨(r335).toArray⟩) [tt, tt, tt, tt, tt, tt, tt, tt, tt, tt, tt, tt, tt, tt, tt, tt, tt, tt, tt, tt, tt, tt, tt, tt, ff] (fun _ hq => AD (t := 9) (t' := 9) (x := (.tmp 83)) (y := (.tmp 92)) (a := r316) (b := r327) (v := r335) rfl rfl hr336) ?_
        refine Dvl [24] [tt, tt, tt, tt, tt, tt, tt, tt, tt, tt, tt, tt, tt, tt, tt, tt, tt, tt, tt, tt, tt, tt, tt, tt, tt] ?_
        obtain rfl := Aa h337
        exact SA (by kernel_rfl) ⟨F17, hs332.dr0.dr0, (((le306.trans le314).trans le325).trans le333), fI⟩
       ·rintro f w261 ⟨F13, hs262, le263, ⟨_, rfl⟩⟩
        refine Ac ?_
        refine Rt ?_
        obtain rfl := Aa h268
        exact Re [(.string ⟨(j264).toArray⟩)] hs262 rfl
def Fc (N : Nat) (sR111 : Expr -> Option SF) (x0 : Expr) (x1 : Int) : Option SF :=
 ((DK N x0.Op).bind fun r24 => (bif (decide (r24 < x1)) then ((sR111 x0).bind fun r35 => ((A3 ([40] : SF) r35).bind fun r43 => ((A3 r43 ([41] : SF)).bind fun r46 => some r46))) else ((sR111 x0).bind fun r49 => some r49)))
theorem Mx (N : Nat) (sR111 : Expr -> Option SF) (hsR111 : Kk sR111) (w0 : World) (F0 : Mem) (hF : SH w0 F0) (hG : B0 F0) (x0 : Expr) (a0_2 : SG) (n0_2 : Nat) (hb0_2 : LC x0.Kids.length n0_2) (hs0_2 : SlA Ao F0 a0_2 x0.Kids) (x1 : Int) (r : SF) (h : Fc N sR111 x0 x1 = some r) :
  Calls Tryz.prog 166 ([(.agg (Ag x0 a0_2 n0_2)), (vi x1)] : List Value).toArray w0 (AJ w0 F0 fun F' v => v = (.string ⟨(r).toArray⟩)) := by
 have hs0 := Sj hF
 refine Go 16 Tryz.func166 ?_
 refine Sq (Rg [0, 1] ?_)
 refine Bx' 33 (Ag x0 a0_2 n0_2) hs0 (fun b21 w22 hs23 => ?_)
 refine Vs 1 ?_
 refine Nss ?_
 refine Sq (Rg [0, 1, 2, 3, 4] ?_)
 refine Vs 1 ?_
 refine Ld hs23.at0 ?_
 obtain ⟨r24, hr25, h26⟩ := bind_some h
 refine Cl' Fy hs23 (Gg N w22 F0 hs23.pers x0.Op _ hr25) ?_
 rintro _ F1 w28 hs29 le30 rfl
 refine Vs 2 ?_
 refine Nt ?_
 refine Cd h26 (fun hb32 h33 => ?_) (fun hb32 h34 => ?_)
 ·refine Sq (Rg [0, 1, 2, 3, 4] ?_)
  refine Ld hs29.at0 ?_
  obtain ⟨r35, hr36, h37⟩ := bind_some h33
  refine Cl' Bp hs29 (hsR111 w28 F1 hs29.pers (hG.mono le30) x0 a0_2 n0_2 hb0_2 (Sk hs0_2 le30) _ hr36) ?_
  rintro _ F2 w39 hs40 le41 rfl
  obtain ⟨r43, hr44, h45⟩ := bind_some h37
  refine V 12 9 (AD (t := 9) (t' := 9) (x := (.const (.string ⟨([40] : SF).toArray⟩))) (y := (.tmp 11)) (a := ([40] : SF)) (b := r35) (v := r43) rfl rfl hr44) ?_
  obtain ⟨r46, hr47, h48⟩ := bind_some h45
  refine V 13 9 (AD (t := 9) (t' := 9) (x := (.tmp 12)) (y := (.const (.string ⟨([41] : SF).toArray⟩))) (a := r43) (b := ([41] : SF)) (v := r46) rfl rfl hr47) ?_
  refine Vs 1 ?_
  refine Nt ?_
  refine Rt ?_
  refine Ae ?_
  obtain rfl := Aa h48
  exact Re [(.string ⟨(r46).toArray⟩)] hs40 rfl
 ·refine Sc ?_
  refine Ac ?_
  refine Sq (Rg [0, 1, 2] ?_)
  refine Ld hs29.at0 ?_
  obtain ⟨r49, hr50, h51⟩ := bind_some h34
  refine Cl' Bp hs29 (hsR111 w28 F1 hs29.pers (hG.mono le30) x0 a0_2 n0_2 hb0_2 (Sk hs0_2 le30) _ hr50) ?_
  rintro _ F3 w53 hs54 le55 rfl
  refine Vs 1 ?_
  refine Nt ?_
  refine Rt ?_
  obtain rfl := Aa h51
  exact Re [(.string ⟨(r49).toArray⟩)] hs54 rfl
structure Rl where
 q111 : Expr -> Option SF
 q166 : Expr -> Int -> Option SF
def CM (N : Nat) : Nat -> Rl
 | 0 => ⟨fun _ => none, fun _ _ => none⟩
 | k + 1 => ⟨Cw N (CM N k).q111 (CM N k).q166, Fc N (CM N k).q111⟩
theorem LZ (N : Nat) : ∀ k, Kk (CM N k).q111 /\ MJ (CM N k).q166
 | 0 => ⟨(by unfold Kk; intros; rename_i h; cases h), (by unfold MJ; intros; rename_i h; cases h)⟩
 | k + 1 => by
  have ih := LZ N k
  exact ⟨@Le N (CM N k).q111 ih.1 (CM N k).q166 ih.2, @Mx N (CM N k).q111 ih.1⟩
def Db (N : Nat) (x0 : Expr) : Option SF := (CM N N).q111 x0
theorem DW (N : Nat) (w0 : World) (F0 : Mem) (hF : SH w0 F0) (hG : B0 F0) (x0 : Expr) (a0_2 : SG) (n0_2 : Nat) (hb0_2 : LC x0.Kids.length n0_2) (hs0_2 : SlA Ao F0 a0_2 x0.Kids) (r : SF) (h : Db N x0 = some r) :
  Calls Tryz.prog 111 ([(.agg #[(.int .i64 x0.Op), (.int .i64 x0.Value), (.slice a0_2 x0.Kids.length n0_2)])] : List Value).toArray w0 (AJ w0 F0 fun F' v => v = (.string ⟨(r).toArray⟩)) := (LZ N N).1 w0 F0 hF hG x0 a0_2 n0_2 hb0_2 hs0_2 r h




structure R7 (a : Ar) (b : BD) : Prop where
 at_ : a.at_ = b.At
 k : (a.kind_ = 1 /\ b.Kind = 1 /\ a.text_ = b.Text /\ b.Text ≠ [] /\ b.Text.length <= 1000000 /\ ∀ c, c ∈ b.Text -> 48 <= c.toNat /\ c.toNat <= 57) \/ (a.kind_ = 2 /\ b.Kind = 2 /\ a.text_ = b.Text /\ b.Text ≠ [10]) \/ (a.kind_ = 3 /\ b.Kind = 3 /\ a.text_ = b.Text /\ b.Text ≠ [10]) \/ (a.kind_ = 3 /\ b.Kind = 4 /\ a.text_ = [10] /\ b.Text = [10]) \/ (a.kind_ = 4 /\ b.Kind = 0)
structure R6 (a : Ar) (b : BD) : Prop where
 at_ : a.at_ = b.At
 a0 : a.kind_ = 0
 b5 : b.Kind = 5
def run (p : UInt8 -> Bool) (s : SF) (k : Nat) : SF := (s.drop k).takeWhile p
abbrev z1 (N : Nat) (s : SF) : Int -> Int -> Int -> Option SF := fun y0 y1 y2 => CH N y0 y1 y2 s
section
variable {N : Nat} {s : SF}
structure R5 (n : Nat) (Lr : List Ar) (Lf : List BD) : Prop where
 lr : Lr.length = n
 lf : Lf.length = n
 pos : 0 < n
 small : n <= 1000000
 c : ∀ (i : Nat) (hr : i < Lr.length) (hf : i < Lf.length), i + 1 < n -> R7 Lr[i] Lf[i]
 e : ∀ (i : Nat) (hr : i < Lr.length) (hf : i < Lf.length), i + 1 = n -> R6 Lr[i] Lf[i]
end

















section
variable {N : Nat} {Lf : List BD} {i : Nat} {o e w : Int}
theorem e0 (he : e ≠ 0) : (e == 0) = false := by simpa using he
end



section
variable (N : Nat) (g : Cr -> Option (Cr × Expr)) (f : Ab -> Option (Ah ⊕ (Ab × Expr)))
def Q8 : Ah -> Option (Ah ⊕ (Ab × Expr)) := fun b => some (.inl b)
def Q2 (r : Ab × Expr) : Option (Ah ⊕ (Ab × Expr)) := (Cn N r.1).bind fun q => sk q Q8 fun r389 => some (.inr (r389, r.2))
def Q1 (r : Ab) : Option (Ah ⊕ (Ab × Expr)) := (f r).bind fun q => sk q Q8 (Q2 N)
def Q0 (r : Ab) : Option (Ah ⊕ (Ab × Expr)) := (Co N r).bind fun q => sk q Q8 (Q1 N f)
end
def NM : List SF := [[98, 97, 110, 100], [109, 111, 100, 101], [104, 111, 117, 114], [109, 121, 99, 111, 117, 110, 116, 114, 121], [109, 121, 122, 111, 110, 101], [109, 121, 99, 111, 110, 116, 105, 110, 101, 110, 116], [99, 111, 117, 110, 116, 114, 121], [122, 111, 110, 101], [99, 111, 110, 116, 105, 110, 101, 110, 116], [99, 97, 108, 108], [103, 111, 116, 122, 111, 110, 101], [99, 97, 116, 101, 103, 111, 114, 121], [112, 111, 119, 101, 114], [115, 116, 97, 116, 117, 115]]
section
variable {N n : Nat} {Lr : List Ar} {Lf : List BD} (T : R5 n Lr Lf) {g : Cr -> Option (Cr × Expr)} {f : Ab -> Option (Ah ⊕ (Ab × Expr))}
theorem Qz : E6 N = some NM := rfl
theorem PE : Gb N = some NM := rfl
end
def rk (op : Int) : Int := if op = 5 then 1 else if op = 4 then 2 else if op = 3 then 3 else if op = 6 \/ op = 7 then 4 else if op = 8 \/ op = 9 then 5 else if op = 10 then 6 else 7
def sgT (op : Int) : SF := if op = 5 then [111, 114] else if op = 4 then [97, 110, 100] else if op = 6 then [61] else if op = 7 then [60] else if op = 8 then [43] else if op = 9 then [45] else [42]
def lf (op : Int) : Int := if op = 6 \/ op = 7 then 5 else rk op
def rt (op : Int) : Int := if op = 6 \/ op = 7 then 5 else rk op + 1
def par (asked op : Int) (t : SF) : SF := if rk op < asked then [40] ++ t ++ [41] else t
def Rv (op v : Int) (l : List (Int × SF)) : SF :=
 let k := fun (i : Nat) => l[i]?.getD (0, [])
 if op = 1 then Go.Lib.itoa v else if op = 2 then NM[v.toNat]?.getD []
 else if op = 3 then [110, 111, 116, 32] ++ par 3 (k 0).1 (k 0).2
 else if op = 11 then [105, 102, 40] ++ (k 0).2 ++ [44, 32] ++ (k 1).2 ++ [44, 32] ++ (k 2).2 ++ [41]
 else par (lf op) (k 0).1 (k 0).2 ++ [32] ++ sgT op ++ [32] ++ par (rt op) (k 1).1 (k 1).2
def pr (e : Expr) : SF := match e with
 | ⟨op, v, ks⟩ => Rv op v (ks.map fun x => (x.Op, pr x))
theorem M9 (e : Expr) : pr e = Rv e.Op e.Value (e.Kids.map fun x => (x.Op, pr x)) := by cases e; rw [pr]
theorem Ez (a op : Int) (t : SF) : (par a op t).length <= t.length + 2 := by unfold par; split <;> simp <;> omega
theorem NU {e : Expr} (h : e.Op = 1) : pr e = Go.Lib.itoa e.Value := by rw [M9, h]; rfl
theorem NW {e : Expr} (h : e.Op = 2) : pr e = NM[e.Value.toNat]?.getD [] := by rw [M9, h]; rfl
theorem NV (x : Expr) : pr ⟨3, 0, [x]⟩ = [110, 111, 116, 32] ++ par 3 x.Op (pr x) := by rw [M9]; rfl
theorem Pu (c x y : Expr) : pr ⟨11, 0, [c, x, y]⟩ = [105, 102, 40] ++ pr c ++ [44, 32] ++ pr x ++ [44, 32] ++ pr y ++ [41] := by rw [M9]; rfl
theorem NT {op : Int} (h : op = 4 \/ op = 5 \/ op = 6 \/ op = 7 \/ op = 8 \/ op = 9 \/ op = 10) (x y : Expr) : pr ⟨op, 0, [x, y]⟩ = par (lf op) x.Op (pr x) ++ [32] ++ sgT op ++ [32] ++ par (rt op) y.Op (pr y) := by
 rw [M9]; rcases h with rfl | rfl | rfl | rfl | rfl | rfl | rfl <;> rfl
theorem QY (i : Nat) : (NM[i]?.getD []).length <= 30 := by
 by_cases h : i < 14
 ·have : ∀ i : Fin 14, (NM[i.val]?.getD []).length <= 30 := by decide
  exact this ⟨i, h⟩
 ·rw [List.getElem?_eq_none (by show 14 <= i; omega)]; simp
theorem ND (op : Int) : (sgT op).length <= 3 := by
 unfold sgT
 by_cases h1 : op = 5
 ·rw [if_pos h1]; decide
 rw [if_neg h1]
 by_cases h2 : op = 4
 ·rw [if_pos h2]; decide
 rw [if_neg h2]
 by_cases h3 : op = 6
 ·rw [if_pos h3]; decide
 rw [if_neg h3]
 by_cases h4 : op = 7
 ·rw [if_pos h4]; decide
 rw [if_neg h4]
 by_cases h5 : op = 8
 ·rw [if_pos h5]; decide
 rw [if_neg h5]
 by_cases h6 : op = 9
 ·rw [if_pos h6]; decide
 rw [if_neg h6]; decide
theorem KH {e : Expr} (h : kd e ≠ 0) : (e.Op = 1 /\ 0 <= e.Value /\ e.Value <= 1000000 /\ e.Kids = []) \/ (e.Op = 2 /\ 0 <= e.Value /\ e.Value <= 13 /\ e.Kids = []) \/ (∃ x, e = ⟨3, 0, [x]⟩ /\ kd x = 2) \/
  (∃ op x y, (op = 4 \/ op = 5 \/ op = 6 \/ op = 7 \/ op = 8 \/ op = 9 \/ op = 10) /\ e = ⟨op, 0, [x, y]⟩ /\ kd x ≠ 0 /\ kd y ≠ 0) \/ (∃ c x y, e = ⟨11, 0, [c, x, y]⟩ /\ kd c = 2 /\ kd x = 1 /\ kd y = 1) := by
 have hm := Rx h
 generalize kd e = t at hm
 cases hm with
 | num h h1 h2 hk => exact .inl ⟨h, h1, h2, hk⟩
 | field h h1 h2 hk => exact .inr (.inl ⟨h, h1, h2, hk⟩)
 | deny h hv x hk h1 => exact .inr (.inr (.inl ⟨x, GL h hv hk, h1⟩))
 | logic h hv x y hk h1 h2 =>
  obtain ⟨op, he⟩ : ∃ op, e.Op = op := ⟨_, rfl⟩
  exact .inr (.inr (.inr (.inl ⟨op, x, y, by rw [he] at h; rcases h with rfl | rfl <;> simp, GL he hv hk, by rw [h1]; decide, by rw [h2]; decide⟩)))
 | test h hv x y hk h1 h2 =>
  obtain ⟨op, he⟩ : ∃ op, e.Op = op := ⟨_, rfl⟩
  exact .inr (.inr (.inr (.inl ⟨op, x, y, by rw [he] at h; rcases h with rfl | rfl <;> simp, GL he hv hk, by rw [h1]; decide, by rw [h2]; decide⟩)))
 | sum h hv x y hk h1 h2 =>
  obtain ⟨op, he⟩ : ∃ op, e.Op = op := ⟨_, rfl⟩
  exact .inr (.inr (.inr (.inl ⟨op, x, y, by rw [he] at h; rcases h with rfl | rfl | rfl <;> simp, GL he hv hk, by rw [h1]; decide, by rw [h2]; decide⟩)))
 | cond h hv c x y hk h0 h1 h2 => exact .inr (.inr (.inr (.inr ⟨c, x, y, GL h hv hk, h0, h1, h2⟩)))
theorem QQ (op v : Int) (x : Expr) : sz ⟨op, v, [x]⟩ = 1 + sz x := by rw [MR]; simp
theorem QP (op v : Int) (x y : Expr) : sz ⟨op, v, [x, y]⟩ = 1 + (sz x + sz y) := by rw [MR]; simp
theorem O9 (op v : Int) (c x y : Expr) : sz ⟨op, v, [c, x, y]⟩ = 1 + (sz c + (sz x + sz y)) := by rw [MR]; simp
theorem BP : ∀ (n : Nat) (e : Expr), sz e <= n -> kd e ≠ 0 -> (pr e).length <= 30 * sz e
 | 0, e, h, _ => by have := Pa e; omega
 | n + 1, e, h, hk => by
  have hp := Pa e
  rcases KH hk with ⟨h1, h2, h3, _⟩ | ⟨h1, h2, h3, _⟩ | ⟨x, rfl, hx⟩ | ⟨op, x, y, hop, rfl, hx, hy⟩ | ⟨c, x, y, rfl, hc, hx, hy⟩
  ·rw [NU h1]
   have := Go.Lib.itoa_length_le e.Value (by omega) (by omega); omega
  ·rw [NW h1]; have := QY e.Value.toNat; omega
  ·rw [QQ] at h ⊢
   have := BP n x (by omega) (by rw [hx]; decide)
   have := Ez 3 x.Op (pr x)
   rw [NV]; simp only [List.length_append, List.length_cons, List.length_nil]; omega
  ·rw [QP] at h ⊢
   have := BP n x (by omega) hx
   have := BP n y (by omega) hy
   have := Ez (lf op) x.Op (pr x)
   have := Ez (rt op) y.Op (pr y)
   have := ND op
   rw [NT hop]; simp only [List.length_append, List.length_cons, List.length_nil]; omega
  ·rw [O9] at h ⊢
   have := BP n c (by omega) (by rw [hc]; decide)
   have := BP n x (by omega) (by rw [hx]; decide)
   have := BP n y (by omega) (by rw [hy]; decide)
   rw [Pu]; simp only [List.length_append, List.length_cons, List.length_nil]; omega
theorem AV {a b : SF} (h : a.length + b.length <= 9223372036854775807) : A3 a b = some (a ++ b) := by unfold A3; rw [if_pos h]
theorem OC {N : Nat} {v : Int} (h0 : 0 <= v) (h1 : v <= 1000000) : strconv_Itoa N v = some (Go.Lib.itoa v) := by unfold strconv_Itoa; rw [if_pos ⟨by omega, by omega⟩]
theorem Jj {a op : Int} {t : SF} (h : t.length <= 9223372036854775800) : (bif (decide (rk op < a)) then ((A3 ([40] : SF) t).bind fun r312 => ((A3 r312 ([41] : SF)).bind fun r315 => some r315)) else some t) = some (par a op t) := by
 unfold par
 by_cases hc : rk op < a
 ·rw [decide_eq_true hc, cond_true, if_pos hc, AV (by simp; omega), Option.bind_some, AV (by simp; omega)]; rfl
 ·rw [decide_eq_false hc, cond_false, if_neg hc]
theorem DM {N : Nat} : ∀ {n k : Nat} {e : Expr}, Ht N n e -> n <= k -> kd e ≠ 0 -> sz e <= 100000000 -> ∀ a, (LU N k).q97 e a = some (par a e.Op (pr e))
 | 0, _, _, h, _, _, _, _ => h.elim
 | n + 1, 0, _, _, h, _, _, _ => absurd h (by omega)
 | n + 1, k + 1, e, ⟨h1, h2, h3⟩, hk, h0, hs, a => by
  have hl := BP _ e (Nat.le_refl _) h0
  show C2 N (LU N k).q97 e a = _
  unfold C2
  rcases KH h0 with ⟨h1, h2, h4, h5⟩ | ⟨h1, h2, h4, h5⟩ | ⟨x, rfl, hx⟩ | ⟨op, x, y, hop, rfl, hx, hy⟩ | ⟨c, x, y, rfl, hc, hx, hy⟩
  ·rw [h1, show Cm N 1 = some (⟨[], 0, 0, 0⟩, false) from rfl]
   simp only [Option.bind_some, cond_false, show ((1 : Int) == 1) = true from rfl, cond_true]
   rw [OC h2 h4]
   simp only [Option.bind_some]
   rw [<- NU h1, show (7 : Int) = rk 1 from rfl]
   exact Jj (by omega)
  ·rw [h1, show Cm N 2 = some (⟨[], 0, 0, 0⟩, false) from rfl]
   simp only [Option.bind_some, cond_false, show ((2 : Int) == 1) = false from rfl, show ((2 : Int) == 2) = true from rfl, cond_true]
   rw [Qz, Option.bind_some]
   obtain ⟨j, hj⟩ : ∃ j : Nat, e.Value = (j : Int) := ⟨e.Value.toNat, by omega⟩
   have hjl : j < NM.length := by show j < 14; omega
   have hp : pr e = NM[j] := by rw [NW h1, hj, Int.toNat_natCast, List.getElem?_eq_getElem hjl]; rfl
   rw [hj, CE hjl]
   simp only [Option.bind_some]
   rw [<- hp, show (7 : Int) = rk 2 from rfl]
   exact Jj (by omega)
  ·have hxm : x ∈ (⟨3, 0, [x]⟩ : Expr).Kids := by simp
   have sx := Dp hxm
   have lx := BP _ x (Nat.le_refl _) (by rw [hx]; decide)
   have px := Ez 3 x.Op (pr x)
   rw [show Cm N (⟨3, 0, [x]⟩ : Expr).Op = some (⟨[], 0, 0, 0⟩, false) from rfl]
   simp only [Option.bind_some, cond_false, show ((3 : Int) == 1) = false from rfl, show ((3 : Int) == 2) = false from rfl, show ((3 : Int) == 3) = true from rfl, cond_true]
   rw [show idx [x] 0 = some x from rfl, Option.bind_some, DM (h3 x hxm) (by omega) (by rw [hx]; decide) (by omega) 3, Option.bind_some, AV (by simp; omega)]
   simp only [Option.bind_some]
   rw [<- NV]
   have := Jj (a := a) (op := 3) (t := pr ⟨3, 0, [x]⟩) (by omega)
   exact this
  ·have hxm : x ∈ (⟨op, 0, [x, y]⟩ : Expr).Kids := by simp
   have hym : y ∈ (⟨op, 0, [x, y]⟩ : Expr).Kids := by simp
   have sx := Dp hxm
   have sy := Dp hym
   have lx := BP _ x (Nat.le_refl _) hx
   have ly := BP _ y (Nat.le_refl _) hy
   have px := Ez (lf op) x.Op (pr x)
   have py := Ez (rt op) y.Op (pr y)
   have sg := ND op
   rw [show Cm N (⟨op, 0, [x, y]⟩ : Expr).Op = some (⟨sgT op, rk op, lf op, rt op⟩, true) by rcases hop with rfl | rfl | rfl | rfl | rfl | rfl | rfl <;> rfl]
   simp only [Option.bind_some, cond_true]
   rw [show idx [x, y] 0 = some x from rfl, Option.bind_some, show idx [x, y] 1 = some y from rfl, Option.bind_some, DM (h3 x hxm) (by omega) hx (by omega) _, Option.bind_some, AV (by simp; omega), Option.bind_some, AV (by simp; omega), Option.bind_some, AV (by simp; omega), Option.bind_some, DM (h3 y hym) (by omega) hy (by omega) _, Option.bind_some, AV (by simp; omega)]
   simp only [Option.bind_some]
   rw [<- NT hop]
   exact Jj (by omega)
  ·have hcm : c ∈ (⟨11, 0, [c, x, y]⟩ : Expr).Kids := by simp
   have hxm : x ∈ (⟨11, 0, [c, x, y]⟩ : Expr).Kids := by simp
   have hym : y ∈ (⟨11, 0, [c, x, y]⟩ : Expr).Kids := by simp
   have sc := Dp hcm
   have sx := Dp hxm
   have sy := Dp hym
   have p1 : ∀ z : Expr, par 1 z.Op (pr z) = pr z := fun z => by unfold par; rw [if_neg]; unfold rk; repeat' split; all_goals omega
   have lc := BP _ c (Nat.le_refl _) (by rw [hc]; decide)
   have lx := BP _ x (Nat.le_refl _) (by rw [hx]; decide)
   have ly := BP _ y (Nat.le_refl _) (by rw [hy]; decide)
   rw [show Cm N (⟨11, 0, [c, x, y]⟩ : Expr).Op = some (⟨[], 0, 0, 0⟩, false) from rfl]
   simp only [Option.bind_some, cond_false, show ((11 : Int) == 1) = false from rfl, show ((11 : Int) == 2) = false from rfl, show ((11 : Int) == 3) = false from rfl, show ((11 : Int) == 11) = true from rfl, cond_true]
   rw [show idx [c, x, y] 0 = some c from rfl, Option.bind_some, show idx [c, x, y] 1 = some x from rfl, Option.bind_some, show idx [c, x, y] 2 = some y from rfl, Option.bind_some,
    DM (h3 c hcm) (by omega) (by rw [hc]; decide) (by omega) 1, p1, Option.bind_some, AV (by simp; omega), Option.bind_some, AV (by simp; omega), Option.bind_some,
    DM (h3 x hxm) (by omega) (by rw [hx]; decide) (by omega) 1, p1, Option.bind_some, AV (by simp; omega), Option.bind_some, AV (by simp; omega), Option.bind_some,
    DM (h3 y hym) (by omega) (by rw [hy]; decide) (by omega) 1, p1, Option.bind_some, AV (by simp; omega), Option.bind_some, AV (by simp; omega)]
   simp only [Option.bind_some]
   rw [<- Pu]
   have := Jj (a := a) (op := 11) (t := pr ⟨11, 0, [c, x, y]⟩) (by omega)
   exact this
section
open Go.Proofs Go.Lib
def P6 (a : SG) (cap : Nat) (t : SF) (e : Option Nat × Obj) : Prop :=
 (a = none /\ cap = 0 /\ t = [] /\ e.1 = none) \/ ∃ g cur, a = some ⟨g, 0, none⟩ /\ e = (some g, .cells cur 5 (0, 0)) /\ t ≠ [] /\ t.length <= cap /\ cap <= maxLen /\ cur.size = cap /\ cur.toList.take t.length = byteCells t
def My (t s : SF) : Option SF := if t.length + s.length <= 140737488355328 then some (t ++ s) else none
theorem O3 {t s r : SF} (h : My t s = some r) : t.length + s.length <= 140737488355328 /\ r = t ++ s := by
 unfold My at h; split at h
 ·rename_i h1; exact ⟨h1, by cases h; rfl⟩
 ·cases h
theorem OG {t s : SF} (h : t.length + s.length <= 140737488355328) : My t s = some (t ++ s) := by unfold My; rw [if_pos h]
section
variable {w w0 : World} {F0 F : Mem} {L : Own}
theorem Dy (l : SF) : (byteCells l).length = l.length := by simp [byteCells]
theorem PX (l m : SF) : byteCells (l ++ m) = byteCells l ++ byteCells m := by simp [byteCells]
theorem NE {g : Nat} {cur cs : Array Value} {e : TypeId} {fz : Nat × Nat} (hg : w.heap[g]? = some (.cells cur e fz)) : w.setRow g cs = Ch w g (.cells cs e fz) := by
 have hlt : g < w.heap.size := (Array.getElem?_eq_some_iff.1 hg).1
 have hv : w.heap[g] = .cells cur e fz := (Array.getElem?_eq_some_iff.1 hg).2
 unfold World.setRow Ch
 congr 1
 apply Array.ext_getElem?
 intro i
 rw [Array.getElem?_modify, Array.getElem?_setIfInBounds]
 by_cases hi : g = i
 ·subst hi; simp [hlt, hv]
 ·simp [hi]
theorem Kw {ty : TypeId} (hs : HS w0 F0 w F L) {k : Nat} {e : Option Nat × Obj} (hk : L[k]? = some e) {a : SG} {cap : Nat} {t s r : SF} (hr : P6 a cap t e) (hap : My t s = some r) :
  ∃ a' cap' e' w', (Builtin.append_ #[42, 9] ty #[.slice a t.length cap, .string ⟨s.toArray⟩]).run Tryz.prog w = .ok (.slice a' r.length cap') w' /\ HS w0 F0 w' F (L.set k e') /\ P6 a' cap' r e' := by
 obtain ⟨hlen, rfl⟩ := O3 hap
 have hu9 : Tryz.prog.underlying 9 = some .string := Tryz.underlying9
 have hu42 : Tryz.prog.underlying 42 = some (.slice 5) := Tryz.underlying42
 obtain ⟨i0, hi, hz0, hz1, hz2⟩ := info_parts (show (Tryz.prog.info? 5).map (fun i => (i.zero, i.size, i.bytes)) = some (some (.int .u8 0), 1, 1) by kernel_rfl)
 have hss : (⟨s.toArray⟩ : ByteArray).size = s.length := by simp [ByteArray.size]
 have hsc : strCells ⟨s.toArray⟩ = byteCells s := by simp [strCells, byteCells]
 have hm : maxLen = 9223372036854775807 := rfl
 rcases hr with ⟨rfl, rfl, rfl, he⟩ | ⟨g, cur, rfl, rfl, hne, hlc, hcm, hcs, htk⟩
 ·by_cases h0 : s = []
  ·subst h0
   refine ⟨none, 0, e, w, ?_, by rw [Kn hk]; exact hs, .inl ⟨rfl, rfl, rfl, he⟩⟩
   simp [Builtin.append_, run_underlying hu42, run_underlying hu9, sizeOf, typeInfo, hi, hz1, Builtin.lenOf, Builtin.firstCells, ByteArray.size]
  ·have hpos : 0 < s.length := List.length_pos_iff.2 h0
   have hrun := run_append_nil_string (P := Tryz.prog) w 42 9 ty 5 i0 (.int .u8 0) hu42 hu9 hi hz0 ⟨s.toArray⟩ (by rw [hss]; exact hpos) (by rw [hss]; simp at hlen; omega) (by rw [hss, hz2]; simp at hlen; omega)
   rw [hss] at hrun
   refine ⟨_, _, _, _, hrun, (hs.heap (w' := w.drew) rfl).renew k _, .inr ⟨_, _, rfl, rfl, by simpa using h0, by simpa using grownCap_ge w s.length 0 5, grownCap_le_maxLen w s.length 0 5 (by rw [hm]; simp at hlen; omega), ?_, ?_⟩⟩
   ·have := grownCap_ge w s.length 0 5
    simp [Builtin.zeroCells, Value.cells]; omega
   ·rw [List.nil_append]
    have e1 : (s.toArray.map fun b => Value.int .u8 (b.toNat : Int)).toList = byteCells s := by simp [byteCells]
    rw [Array.toList_append, e1, List.take_append_of_le_length (by rw [Dy]; exact Nat.le_refl _), <- Dy s, List.take_length]
 ·have hg : w.heap[g]? = some (.cells cur 5 (0, 0)) := hs.ownAt hk
  by_cases hfit : t.length + s.length <= cap
  ·have hrun := run_append_room_string (P := Tryz.prog) w 42 9 ty 5 i0 hu42 hu9 hi hz1 g t.length cap cur hg ⟨s.toArray⟩ (by rw [hss]; exact hfit) (by rw [hss, hcs]; exact hfit)
   rw [hss, hsc, NE hg] at hrun
   refine ⟨some ⟨g, 0, none⟩, cap, _, _, by rw [List.length_append]; exact hrun, hs.put hk _, .inr ⟨g, _, rfl, rfl, by simp [hne], by simpa using hfit, hcm, ?_, ?_⟩⟩
   ·simp [Dy, hcs]; omega
   ·rw [htk, List.length_append, PX]
    rw [List.take_append_of_le_length (by simp [Dy])]
    have : t.length + s.length = (byteCells t ++ byteCells s).length := by simp [Dy]
    rw [this, List.take_length]
  ·have hholds : ∀ j v, (byteCells t)[j]? = some v -> w.cell? ((⟨g, 0, none⟩ : Addr).add j) = some v := fun j v hj => by
    have hjl : j < t.length := by
     rcases Nat.lt_or_ge j t.length with h' | h'
     ·exact h'
     ·rw [List.getElem?_eq_none (by rw [Dy]; exact h')] at hj; cases hj
    have : cur[j]? = some v := by
     rw [<- htk, List.getElem?_take_of_lt hjl, Array.getElem?_toList] at hj; exact hj
    rw [Addr.add_lit]; simp [World.cell?, hg, this]
   have hrun := run_append_grow_string (P := Tryz.prog) w 42 9 ty 5 i0 (.int .u8 0) hu42 hu9 hi hz0 ⟨g, 0, none⟩ t.length cap (byteCells t) (by rw [Dy, hz1, Nat.mul_one]) hholds ⟨s.toArray⟩ (by rw [hss]; omega) (by rw [hss]; omega) (by rw [hss, hz2]; exact growslice_fits (by omega) (by omega))
   rw [hss, hsc] at hrun
   refine ⟨_, _, _, _, by rw [List.length_append]; exact hrun, (hs.heap (w' := w.drew) rfl).renew k _, .inr ⟨_, _, rfl, rfl, by simp [hne], by simpa using grownCap_ge w (t.length + s.length) cap 5, grownCap_le_maxLen w (t.length + s.length) cap 5 (by rw [hm]; omega), ?_, ?_⟩⟩
   ·have := grownCap_ge w (t.length + s.length) cap 5
    simp [Builtin.zeroCells, Value.cells, Dy]; omega
   ·rw [Array.toList_append, Array.toList_append, PX, List.length_append]
    have : t.length + s.length = (byteCells t ++ byteCells s).length := by simp [Dy]
    rw [List.take_append_of_le_length (by simp [Dy]), this]
    simp only [List.take_length]
end
section
variable {ρ : Operand -> Value} {w : World}
theorem GM (op : BinOp) (t : TypeId) (x y : Operand) (p q : SG) : (eqGuard op t x y (.pointer p) (.pointer q)).run Tryz.prog w = .ok () w := by
 unfold eqGuard; cases op <;> simp
theorem Mh (p : SG) (d : Nat) : (Op.equalIn (d + 1) 128 (.pointer p) (.pointer none)).run Tryz.prog w = .ok p.isNone w := by
 unfold Op.equalIn
 simp only [Sem.run_bind, run_underlying Tryz.underlying128, Result.andThen_ok]
 cases p <;> rfl
theorem MZ {x y : Operand} {p : SG} {ty : TypeId} (hx : ρ x = .pointer p) (hy : ρ y = .pointer none) : (Ak ρ (.binOp .eql 128 x y 128) ty).run Tryz.prog w = .ok (.value (.bool p.isNone)) w := by
 have e : Ak ρ (.binOp .eql 128 x y 128) ty = (do pure (Next.value (<- (do eqGuard .eql 128 x y (ρ x) (ρ y); binOp .eql 128 (ρ x) (ρ y))))) := rfl
 have e2 : binOp .eql 128 (.pointer p) (.pointer none) = (do pure (Value.bool (<- Op.equalIn (9999 + 1) 128 (.pointer p) (.pointer none)))) := rfl
 rw [e, hx, hy, e2]
 simp only [Sem.run_bind, GM, Result.andThen_ok, Mh, Sem.run_pure]
theorem Mg {x y : Operand} {a : Addr} {ty : TypeId} (hx : ρ x = .pointer (some a)) (hy : ρ y = .pointer (some a)) : (Ak ρ (.binOp .neq 128 x y 128) ty).run Tryz.prog w = .ok (.value (.bool false)) w := by
 have e : Ak ρ (.binOp .neq 128 x y 128) ty = (do pure (Next.value (<- (do eqGuard .neq 128 x y (ρ x) (ρ y); binOp .neq 128 (ρ x) (ρ y))))) := rfl
 obtain ⟨j, hj, _⟩ := Option.map_eq_some_iff.1 (show (Tryz.prog.info? 130).map (·.size) = some 2 by kernel_rfl)
 rw [e, hx, hy]
 simp only [Sem.run_bind, GM, Result.andThen_ok, run_neq_ptr_same w a Tryz.underlying128 hj, Sem.run_pure]
theorem M1 {x : Operand} {v u : Value} {s d ty : TypeId} (hx : ρ x = v) (h : (convert s d v).run Tryz.prog w = .ok u w) : (Ak ρ (.convert s d x) ty).run Tryz.prog w = .ok (.value u) w := by
 have e : Ak ρ (.convert s d x) ty = (do pure (Next.value (<- convert s d (ρ x)))) := rfl
 rw [e, hx, Sem.run_bind, h]; rfl
theorem ON {x : Operand} {v : Value} {ty : TypeId} (hx : ρ x = v) (hf : ρ (.func 198) = .func (.func 198) #[] #[]) : (Ak ρ (.call { callee := .value (.func 198), args := #[x], argTypes := #[204] }) ty).run Tryz.prog w = .ok (.value v) w := by
 have e : Ak ρ (.call { callee := .value (.func 198), args := #[x], argTypes := #[204] }) ty = (do let d <- Deferred.ofValue (ρ (.func 198)) (#[x].map ρ); invoke d.target d.args) := rfl
 rw [e, hf]
 simp only [Deferred.ofValue, Sem.run_bind, Sem.run_pure, Result.andThen_ok, invoke]
 rw [run_callFunc_extern Tryz.func198 (by kernel_rfl) (by kernel_rfl) (by kernel_rfl) (e := Extern.AbiNoEscape.same) (by kernel_rfl)]
 have : (#[] ++ Array.map ρ #[x] ++ #[] : Array Value) = #[v] := by simp [hx]
 rw [this, run_noEscape]; rfl
end
theorem Mw : Al Tryz.prog 164 := fun _ _ => by kernel_rfl
theorem Nl {wb w0 : World} {Fb F0 : Mem} {Lf : Own} (b : Nat) (p : SG) (hp : p = none \/ p = some ⟨b, 0, none⟩) (v : Value) (hv : v.oneCell' = true) (hs0 : HS wb Fb w0 F0 ((some b, .cells #[.pointer p, v] 130 (0, 0)) :: Lf)) :
  Calls Tryz.prog 164 ([(.pointer (some ⟨b, 0, none⟩))] : List Value).toArray w0 (Ll wb Fb F0 fun _ r L' => r = .tuple #[] /\ L' = (some b, .cells #[.pointer (some ⟨b, 0, none⟩), v] 130 (0, 0)) :: Lf) := by
 have hsh : w0.shape? b = some (130, 2) := by simp [World.shape?, hs0.at0]
 refine Go 20 Tryz.func164 ?_
 refine Sq ?_
 refine Rg [0, 1, 2, 3, 4] ?_
 refine Vs 3 ?_
 refine Ld hs0.at0 ?_
 refine V 6 4 (MZ (x := .tmp 5) (y := .const (.pointer none)) (p := p) rfl rfl) ?_
 refine Sd ?_
 refine Ac ?_
 rcases hp with rfl | rfl
 ·refine C1 (t := true) rfl ?_
  refine Rg [0, 1, 2, 3, 4, 5, 6, 7] ?_
  obtain ⟨j, hj, hjs⟩ := Option.map_eq_some_iff.1 (show (Tryz.prog.info? 130).map (·.size) = some 2 by kernel_rfl)
  refine Vs 2 ?_
  refine V 9 204 (M1 (s := 128) (d := 204) (x := .tmp 8) rfl (run_to_unsafe w0 ⟨b, 0, none⟩ Tryz.underlying128 Tryz.underlying204 hj (by rw [hjs]; decide) hsh (Nat.zero_lt_succ 1))) ?_
  refine V 10 204 (ON (x := .tmp 9) rfl rfl) ?_
  refine V 11 128 (M1 (s := 204) (d := 128) (x := .tmp 10) rfl (run_from_unsafe w0 ⟨b, 0, none⟩ Tryz.underlying204 Tryz.underlying128 hj hsh (by kernel_rfl))) ?_
  refine Vs 2 ?_
  refine St0 #[.pointer (some ⟨b, 0, none⟩), v] hs0 (fun w1 hs1 => ?_)
  refine Sd ?_
  exact ReB [] hs1 (Si _) ⟨rfl, rfl⟩
 ·refine C0 (t := false) rfl ?_
  refine Sq ?_
  refine Rg [0, 1, 2, 3, 4, 5] ?_
  refine Vs 3 ?_
  refine Ld hs0.at0 ?_
  refine Vs 1 ?_
  refine V 19 4 (Mg (x := .tmp 17) (y := .tmp 18) rfl rfl) ?_
  refine Sd ?_
  refine Ac ?_
  refine C0 (t := false) rfl ?_
  refine CWP.skip (by kernel_rfl) ?_
  exact ReB [] hs0 (Si _) ⟨rfl, rfl⟩
theorem G5 : Al Tryz.prog 108 := fun _ _ => by kernel_rfl
theorem LL {wb w0 : World} {Fb F0 : Mem} {Lf : Own} (b : Nat) (p : SG) (hp : p = none \/ p = some ⟨b, 0, none⟩) (a : SG) (cap : Nat) (e : Option Nat × Obj) (t s r : SF) (hb : P6 a cap t e) (hap : My t s = some r)
  (hs0 : HS wb Fb w0 F0 ((some b, .cells #[.pointer p, .slice a t.length cap] 130 (0, 0)) :: e :: Lf)) :
  Calls Tryz.prog 108 ([(.pointer (some ⟨b, 0, none⟩)), (.string ⟨s.toArray⟩)] : List Value).toArray w0 (Ll wb Fb F0 fun _ v L' => v = .tuple #[.int .i64 (s.length : Int), .nilIface] /\ ∃ a' cap' e', L' = (some b, .cells #[.pointer (some ⟨b, 0, none⟩), .slice a' r.length cap'] 130 (0, 0)) :: e' :: Lf /\ P6 a' cap' r e') := by
 refine Go 19 Tryz.func108 ?_
 refine Sq ?_
 refine Rg [0, 1] ?_
 refine Vs 2 ?_
 refine Sd ?_
 refine Ac ?_
 refine Sq ?_
 refine Rg [0, 1] ?_
 refine Vs 1 ?_
 refine CB Mw (Nl b p hp (.slice a t.length cap) rfl hs0) ?_
 rintro _ F1 w1 _ hs1 le1 ⟨rfl, rfl⟩
 refine Sd ?_
 refine Ac ?_
 refine Sq ?_
 refine Rg [0, 1, 2, 3, 4, 5, 6, 7, 8, 9] ?_
 refine Vs 4 ?_
 refine Ld hs1.at0 ?_
 refine Vs 1 ?_
 obtain ⟨a', cap', e', w2, hrun, hs2, hb2⟩ := Kw (ty := 42) hs1 (k := 1) rfl hb hap
 refine Se (dst := some 14) (ty := 42) (g := none) (v := .slice a' r.length cap') (by kernel_rfl) rfl (by
  have e : ∀ ρ : Operand -> Value, Ak ρ (.call { callee := .builtin .append, args := #[.tmp 12, .tmp 13], argTypes := #[42, 9] }) 42 = (do pure (Next.value (<- Builtin.append_ #[42, 9] 42 (#[.tmp 12, .tmp 13].map ρ)))) := fun _ => rfl
  rw [e]
  simp only [List.map_toArray, List.map_cons, List.map_nil]
  rw [Sem.run_bind]
  refine Eq.trans (congrArg (fun x => Result.andThen x _) (show _ = _ from hrun)) rfl) ?_
 have hs2 : HS wb Fb w2 F1 ((some b, .cells #[.pointer (some ⟨b, 0, none⟩), .slice a t.length cap] 130 (0, 0)) :: e' :: Lf) := hs2
 refine Vs 2 ?_
 refine St0 #[.pointer (some ⟨b, 0, none⟩), .slice a' r.length cap'] hs2 (fun w3 hs3 => ?_)
 refine Sd ?_
 refine Ac ?_
 refine Sq ?_
 refine Rg [0, 1, 2, 3] ?_
 refine Vs 4 ?_
 refine Sd ?_
 refine Ac ?_
 refine Rt ?_
 exact ReB [.int .i64 (s.length : Int), .nilIface] hs3 le1 ⟨rfl, a', cap', e', rfl, hb2⟩
def Hf (b : Nat) (t : SF) (_ : Mem) (Lf : Own) : Prop := ∃ p a n e, (p = none \/ p = some ⟨b, 0, none⟩) /\ Lf = [e, (some b, .cells #[.pointer p, .slice a t.length n] 130 (0, 0))] /\ P6 a n t e
theorem Hf.mono {b : Nat} : Nu (Hf b) := fun _ _ _ _ h _ => h
section
variable {w w0 : World} {F0 F : Mem} {L : Own} {b : Nat}
theorem Hf.new (hs : HS w0 F0 w F ((some b, .cells #[.pointer none, .slice none 0 0] 130 (0, 0)) :: L)) : ∃ Lf, HS w0 F0 w F (L ++ Lf) /\ Hf b [] F Lf :=
 ⟨_, HS.swap (A := [(none, .cells #[] 0 (0, 0)), _]) (hs.dummy (.cells #[] 0 (0, 0))), none, none, 0, _, .inl rfl, rfl, .inl ⟨rfl, rfl, rfl, rfl⟩⟩
theorem Nm {Lf : Own} {t s r : SF} (hap : My t s = some r) (hJ : Hf b t F Lf) (hs : HS w0 F0 w F (L ++ Lf)) :
  Calls Tryz.prog 108 ([(.pointer (some ⟨b, 0, none⟩)), (.string ⟨s.toArray⟩)] : List Value).toArray w (Ll w0 F0 F fun F' v L' => v = .tuple #[.int .i64 (s.length : Int), .nilIface] /\ ∃ Lf', L' = L ++ Lf' /\ Hf b r F' Lf') := by
 obtain ⟨p, a, n, e, hp, rfl, hb⟩ := hJ
 have h1 : HS w0 F0 w F (e :: (some b, .cells #[.pointer p, .slice a t.length n] 130 (0, 0)) :: L) := HS.swap hs
 refine (LL b p hp a n e t s r hb hap h1.pk1).mono ?_
 rintro _ w' ⟨F', v, _, rfl, h2, h3, rfl, a', n', e', rfl, hb'⟩
 exact ⟨F', _, L ++ [e', _], rfl, HS.swap (A := [e', _]) h2.pk1, h3, rfl, _, rfl, _, a', n', e', .inr rfl, rfl, hb'⟩
theorem N9 : Al Tryz.prog 109 := fun _ _ => by kernel_rfl
theorem O2 {Lf : Own} {t : SF} (hJ : Hf b t F Lf) (hs : HS w0 F0 w F (L ++ Lf)) : Calls Tryz.prog 109 ([(.pointer (some ⟨b, 0, none⟩))] : List Value).toArray w (Ll w0 F0 F0 fun F' v L' => v = .string ⟨t.toArray⟩ /\ L' = [] /\ F' = F0) := by
 obtain ⟨p, a, n, e, hp, rfl, hb⟩ := hJ
 have h1 : HS w0 F0 w F (e :: (some b, .cells #[.pointer p, .slice a t.length n] 130 (0, 0)) :: L) := HS.swap hs
 have hB : w0.heap.size <= b := (h1.own b _ (.tail _ (.head _))).2.2
 have hbk := h1.at1
 have hbuf : IsBuilder 130 5 w0.heap.size b (byteCells t) w := by
  have : BuilderAt 130 5 w0.heap.size b (.pointer p) (byteCells t) w := by
   refine ⟨hB, .slice a t.length n, hbk, ?_, ?_⟩
   ·rcases hb with ⟨rfl, rfl, rfl, _⟩ | ⟨g, cur, rfl, rfl, hne, hlc, hcm, hcs, htk⟩
    ·exact ⟨rfl, .inl ⟨rfl, rfl⟩⟩
    ·exact ⟨by simp [Dy], .inr ⟨g, n, cur, by rw [Dy], (h1.own g _ (.head _)).2.2, h1.at0, by rw [Dy]; exact hlc, hcm, by simpa using hcs, by rw [Dy, Nat.mul_one]; exact htk⟩⟩
   ·rcases hb with ⟨rfl, rfl, rfl, _⟩ | ⟨g, cur, rfl, rfl, hne, hlc, hcm, hcs, htk⟩
    ·simp [Value.ownBlock]
    ·have := h1.nd
     simp only [Value.ownBlock]
     intro e
     simp at e
     subst e
     simp at this
  rcases hp with rfl | rfl
  ·exact .inl this
  ·exact .inr this
 refine (Tryz.Builder_String_any w0.heap.size b t w hbuf h1.size).mono ?_
 rintro _ w' ⟨rfl, hbel⟩
 refine ⟨F0, _, [], rfl, ?_, Si _, rfl, rfl, rfl⟩
 exact ⟨h1.base, h1.fix.trans ⟨hbel.os, hbel.output, hbel.tape⟩, Nat.le_trans h1.size hbel.size, fun c hc => (hbel.block c hc).trans (h1.keep c hc), fun _ _ => rfl, fun c o hc => (hbel.block c (Bn (h1.base c o hc))).trans ((h1.keep c (Bn (h1.base c o hc))).trans (h1.base c o hc)), fun _ _ h => (by cases h), List.nodup_nil⟩
end
end
def Ca (N : Nat) (x0 : Be) (r24 : Bool) (s50 : (Int × SF)) (x80 : BZ) : (Int × SF) -> Option (Bi (SF × Int) (Int × SF)) := fun s99 =>
 (bif (decide (s99.1 < (x80.l_.length : Int))) then ((idx x80.l_ s99.1).bind fun x136 => (((A3 x80.word_ ([58, 32] : SF)).bind fun r175 => ((B6 N x136.When 1).bind fun r178 => ((A3 r175 r178).bind fun r186 => ((A3 r186 ([32, 61, 62, 32] : SF)).bind fun r189 => ((B6 N x136.Then 1).bind fun r192 => ((A3 r189 r192).bind fun r200 => ((A3 r200 ([10] : SF)).bind fun r203 => ((My s99.2 r203).bind fun t209 => some t209)))))))).bind fun j160 => some (.next ((W64 (s99.1 + 1)), j160)))) else some (.done (s99.1, s99.2)))
def Cb (N : Nat) (x0 : Be) (r24 : Bool) : (Int × SF) -> Option (Bi (SF × Int) (Int × SF)) := fun s50 =>
 (bif (decide (s50.1 < ([({ word_ := ([112, 111, 105, 110, 116, 115] : SF), l_ := x0.Points } : BZ), ({ word_ := ([109, 117, 108, 116, 105, 112, 108, 105, 101, 114] : SF), l_ := x0.Multipliers } : BZ), ({ word_ := ([112, 101, 110, 97, 108, 116, 121] : SF), l_ := x0.Penalties } : BZ)].length : Int))) then ((idx [({ word_ := ([112, 111, 105, 110, 116, 115] : SF), l_ := x0.Points } : BZ), ({ word_ := ([109, 117, 108, 116, 105, 112, 108, 105, 101, 114] : SF), l_ := x0.Multipliers } : BZ), ({ word_ := ([112, 101, 110, 97, 108, 116, 121] : SF), l_ := x0.Penalties } : BZ)] s50.1).bind fun x80 => ((A0 (Ca N x0 r24 s50 x80) N (0, s50.2)).bind fun o => o.k (fun r => some (.ret r)) (fun s115 => some (.next ((W64 (s50.1 + 1)), s115.2))))) else some (.done (s50.1, s50.2)))
def CI (N : Nat) (x0 : Be) (r24 : Bool) (s62 : (Int × SF)) : (Int × SF) -> Option (Bi (SF × Int) (Int × SF)) := fun s224 =>
 (bif (decide (s224.1 < (x0.Repeats.length : Int))) then ((idx x0.Repeats s224.1).bind fun x252 => ((B6 N x252 1).bind fun r271 => ((A3 ([114, 101, 112, 101, 97, 116, 58, 32] : SF) r271).bind fun r279 => ((A3 r279 ([10] : SF)).bind fun r282 => ((My s224.2 r282).bind fun t288 => some (.next ((W64 (s224.1 + 1)), t288))))))) else some (.done (s224.1, s224.2)))
def E7 (N : Nat) (x0 : Be) : Option (SF × Int) :=
 ((DY N x0).bind fun r24 => (bif (!r24) then some (([] : SF), 62) else ((A0 (Cb N x0 r24) N (0, ([] : SF))).bind fun o => o.k (fun r => some r) (fun s62 => ((A0 (CI N x0 r24 s62) N (0, s62.2)).bind fun o => o.k (fun r => some r) (fun s235 => some (s235.2, 0)))))))
theorem KV : Al Tryz.prog 51 := fun _ _ => by kernel_rfl
theorem LD (N : Nat) (w0 : World) (F0 : Mem) (hF : SH w0 F0) (hG : B0 F0) (x0 : Be) (a0_0 : SG) (n0_0 : Nat) (hb0_0 : LC x0.Points.length n0_0) (hs0_0 : SlA As F0 a0_0 x0.Points) (a0_1 : SG) (n0_1 : Nat) (hb0_1 : LC x0.Multipliers.length n0_1) (hs0_1 : SlA As F0 a0_1 x0.Multipliers) (a0_2 : SG) (n0_2 : Nat) (hb0_2 : LC x0.Penalties.length n0_2) (hs0_2 : SlA As F0 a0_2 x0.Penalties) (a0_3 : SG) (n0_3 : Nat) (hb0_3 : LC x0.Repeats.length n0_3) (hs0_3 : SlA Ao F0 a0_3 x0.Repeats) (r : (SF × Int)) (h : E7 N x0 = some r) :
  Calls Tryz.prog 51 ([(.agg (AU x0 a0_0 n0_0 a0_1 n0_1 a0_2 n0_2 a0_3 n0_3))] : List Value).toArray w0 (AJ w0 F0 fun F' v => v = (.tuple #[(.string ⟨(r.1).toArray⟩), (vi r.2)])) := by
 have hs0 := Sj hF
 refine Go 66 Tryz.func51 ?_
 refine Sq (Rg [0, 1, 2] ?_)
 refine Bx' 26 (AU x0 a0_0 n0_0 a0_1 n0_1 a0_2 n0_2 a0_3 n0_3) hs0 (fun b21 w22 hs23 => ?_)
 refine Vs 2 ?_
 refine Nss ?_
 refine Sq (Rg [0, 1, 2] ?_)
 refine Ld hs23.at0 ?_
 obtain ⟨r24, hr25, h26⟩ := bind_some h
 refine Cl' GX hs23 (HN N w22 F0 hs23.pers x0 a0_0 n0_0 hb0_0 hs0_0 a0_1 n0_1 hb0_1 hs0_1 a0_2 n0_2 hb0_2 hs0_2 a0_3 n0_3 hb0_3 hs0_3 _ hr25) ?_
 rintro _ F1 w28 hs29 le30 rfl
 refine Vs 1 ?_
 refine Nt ?_
 refine Cd h26 (fun hb32 h33 => ?_) (fun hb32 h34 => ?_)
 ·refine Sq (Rg [0, 1] ?_)
  refine Vs 2 ?_
  refine Nt ?_
  refine Rt ?_
  refine Ae ?_
  obtain rfl := Aa h33
  exact Re [(.string ⟨(([] : SF)).toArray⟩), (vi 62)] hs29 rfl
 ·refine Sc ?_
  refine Ac ?_
  refine Sq (Rg [0] ?_)
  refine Al' 130 #[.pointer none, .slice none 0 0] hs29 (fun b35 w36 hs37 => ?_)
  obtain ⟨Lf38, hs39, hJ40⟩ := Hf.new hs37
  have hs41 : HS w0 F0 w36 F1 ((sb b21 (AU x0 a0_0 n0_0 a0_1 n0_1 a0_2 n0_2 a0_3 n0_3) 26) :: Lf38) := hs39
  refine Nss ?_
  refine Sq (Rg [0, 1, 2, 3, 4, 5, 6, 7, 8, 9, 10, 11] ?_)
  refine Vs 1 ?_
  refine Ld hs41.at0 ?_
  refine Vs 2 ?_
  refine Ld hs41.at0 ?_
  refine Vs 2 ?_
  refine Ld hs41.at0 ?_
  refine Vs 1 ?_
  refine Bs 131 [(.string ⟨(([112, 111, 105, 110, 116, 115] : SF)).toArray⟩), (.slice a0_0 x0.Points.length n0_0), (.string ⟨(([109, 117, 108, 116, 105, 112, 108, 105, 101, 114] : SF)).toArray⟩), (.slice a0_1 x0.Multipliers.length n0_1), (.string ⟨(([112, 101, 110, 97, 108, 116, 121] : SF)).toArray⟩), (.slice a0_2 x0.Penalties.length n0_2)] hs41 (fun b42 w43 hs44 => ?_)
  have hr46 : Aw Rp 131 F1 (some ⟨b42, 0, none⟩) 3 [({ word_ := ([112, 111, 105, 110, 116, 115] : SF), l_ := x0.Points } : BZ), ({ word_ := ([109, 117, 108, 116, 105, 112, 108, 105, 101, 114] : SF), l_ := x0.Multipliers } : BZ), ({ word_ := ([112, 101, 110, 97, 108, 116, 121] : SF), l_ := x0.Penalties } : BZ)] (some b42, .cells ([(.string ⟨(([112, 111, 105, 110, 116, 115] : SF)).toArray⟩), (.slice a0_0 x0.Points.length n0_0), (.string ⟨(([109, 117, 108, 116, 105, 112, 108, 105, 101, 114] : SF)).toArray⟩), (.slice a0_1 x0.Multipliers.length n0_1), (.string ⟨(([112, 101, 110, 97, 108, 116, 121] : SF)).toArray⟩), (.slice a0_2 x0.Penalties.length n0_2)] : List Value).toArray 131 (0, 0)) := SC ⟨⟨a0_0, n0_0, rfl, hb0_0, (Sk hs0_0 le30)⟩, ⟨⟨a0_1, n0_1, rfl, hb0_1, (Sk hs0_1 le30)⟩, ⟨⟨a0_2, n0_2, rfl, hb0_2, (Sk hs0_2 le30)⟩, rfl⟩⟩⟩ (by simp)
  refine Vs 2 ?_
  refine Nt ?_
  obtain ⟨o47, ho48, h49⟩ := bind_some h34
  refine So (fun f w => ∃ (s62 : (Int × SF)) (F3 : Mem) (Lf66 : Own), o47 = .done s62 /\ HS w0 F0 w F3 ((sb b21 (AU x0 a0_0 n0_0 a0_1 n0_1 a0_2 n0_2 a0_3 n0_3) 26) :: Lf66) /\ Sh F1 F3 /\ FI f [] [(1, (pt b21 0)), (4, (pt b35 0))] /\ Hf b35 s62.2 F3 Lf66) ?_ ?_
  ·refine Bk ?_
   refine Sg (by kernel_rfl) (fun m f w => ∃ (s50 : (Int × SF)) (F2 : Mem) (Lf54 : Own), A0 (Cb N x0 r24) m s50 = some o47 /\ HS w0 F0 w F2 ((some b42, .cells ([(.string ⟨(([112, 111, 105, 110, 116, 115] : SF)).toArray⟩), (.slice a0_0 x0.Points.length n0_0), (.string ⟨(([109, 117, 108, 116, 105, 112, 108, 105, 101, 114] : SF)).toArray⟩), (.slice a0_1 x0.Multipliers.length n0_1), (.string ⟨(([112, 101, 110, 97, 108, 116, 121] : SF)).toArray⟩), (.slice a0_2 x0.Penalties.length n0_2)] : List Value).toArray 131 (0, 0)) :: (sb b21 (AU x0 a0_0 n0_0 a0_1 n0_1 a0_2 n0_2 a0_3 n0_3) 26) :: Lf54) /\ Sh F1 F2 /\ FI f [] [(1, (pt b21 0)), (4, (pt b35 0)), (23, (.slice (some ⟨b42, 0, none⟩) [({ word_ := ([112, 111, 105, 110, 116, 115] : SF), l_ := x0.Points } : BZ), ({ word_ := ([109, 117, 108, 116, 105, 112, 108, 105, 101, 114] : SF), l_ := x0.Multipliers } : BZ), ({ word_ := ([112, 101, 110, 97, 108, 116, 121] : SF), l_ := x0.Penalties } : BZ)].length 3)), (24, (vi ([({ word_ := ([112, 111, 105, 110, 116, 115] : SF), l_ := x0.Points } : BZ), ({ word_ := ([109, 117, 108, 116, 105, 112, 108, 105, 101, 114] : SF), l_ := x0.Multipliers } : BZ), ({ word_ := ([112, 101, 110, 97, 108, 116, 121] : SF), l_ := x0.Penalties } : BZ)].length : Int))), (25, (vi s50.1))] /\ Hf b35 s50.2 F2 Lf54) N ⟨(0, ([] : SF)), F1, Lf38, ho48, hs44, (Si _), fI, hJ40⟩ ?_
   rintro m71 f w51 ⟨s50, F2, Lf54, hit72, hs52, le53, ⟨_, rfl⟩, hJ55⟩
   obtain ⟨m73, fl74, rfl, hb75, hnx76⟩ := AQ hit72
   refine Sq (Rg [0] ?_)
   refine Vs 1 ?_
   refine Nss ?_
   refine Cd hb75 (fun hb77 h78 => ?_) (fun hb77 h79 => ?_)
   ·refine Sc ?_
    refine Ac ?_
    refine Sq ?_
    refine Bk ?_
    refine Sq (Rg [0, 1, 2, 3] ?_)
    obtain ⟨x80, hx81, h83⟩ := bind_some h78
    obtain ⟨hi82, hx81'⟩ := Ap hx81
    obtain ⟨b84, C85, ha86, he87, hE88⟩ := SD (hr46.mono le53) hx81'
    cases ha86
    cases he87
    obtain ⟨ae89_1, ne89_1, hc90, hbe89_1, hse89_1⟩ := hE88 _ _ hx81'
    refine Ix0 hi82 ?_
    refine Lx 0 hs52.at0 hc90 ?_
    refine Al' 131 #[(.string ⟨(([] : SF)).toArray⟩), (.slice none ([] : List Clause).length 0)] hs52 (fun b91 w92 hs93 => ?_)
    refine St0 (L2 x80 ae89_1 ne89_1) hs93 (fun w94 hs95 => ?_)
    refine Nss (Rg [0, 1, 2, 3] ?_)
    refine Vs 1 ?_
    refine Ld hs95.at0 ?_
    refine Vs 2 ?_
    refine Nt ?_
    obtain ⟨o96, ho97, h98⟩ := bind_some h83
    refine So (fun f w => ∃ (s115 : (Int × SF)) (F5 : Mem) (Lf119 : Own), o96 = .done s115 /\ HS w0 F0 w F5 ((some b42, .cells ([(.string ⟨(([112, 111, 105, 110, 116, 115] : SF)).toArray⟩), (.slice a0_0 x0.Points.length n0_0), (.string ⟨(([109, 117, 108, 116, 105, 112, 108, 105, 101, 114] : SF)).toArray⟩), (.slice a0_1 x0.Multipliers.length n0_1), (.string ⟨(([112, 101, 110, 97, 108, 116, 121] : SF)).toArray⟩), (.slice a0_2 x0.Penalties.length n0_2)] : List Value).toArray 131 (0, 0)) :: (sb b21 (AU x0 a0_0 n0_0 a0_1 n0_1 a0_2 n0_2 a0_3 n0_3) 26) :: Lf119) /\ Sh F2 F5 /\ FI f [] [(1, (pt b21 0)), (4, (pt b35 0)), (23, (.slice (some ⟨b42, 0, none⟩) [({ word_ := ([112, 111, 105, 110, 116, 115] : SF), l_ := x0.Points } : BZ), ({ word_ := ([109, 117, 108, 116, 105, 112, 108, 105, 101, 114] : SF), l_ := x0.Multipliers } : BZ), ({ word_ := ([112, 101, 110, 97, 108, 116, 121] : SF), l_ := x0.Penalties } : BZ)].length 3)), (24, (vi ([({ word_ := ([112, 111, 105, 110, 116, 115] : SF), l_ := x0.Points } : BZ), ({ word_ := ([109, 117, 108, 116, 105, 112, 108, 105, 101, 114] : SF), l_ := x0.Multipliers } : BZ), ({ word_ := ([112, 101, 110, 97, 108, 116, 121] : SF), l_ := x0.Penalties } : BZ)].length : Int))), (25, (vi s50.1))] /\ Hf b35 s115.2 F5 Lf119) ?_ ?_
    ·refine Bk ?_
     refine Sg (by kernel_rfl) (fun m f w => ∃ (s99 : (Int × SF)) (F4 : Mem) (Lf103 : Own), A0 (Ca N x0 r24 s50 x80) m s99 = some o96 /\ HS w0 F0 w F4 ((sb b91 (L2 x80 ae89_1 ne89_1) 131) :: (some b42, .cells ([(.string ⟨(([112, 111, 105, 110, 116, 115] : SF)).toArray⟩), (.slice a0_0 x0.Points.length n0_0), (.string ⟨(([109, 117, 108, 116, 105, 112, 108, 105, 101, 114] : SF)).toArray⟩), (.slice a0_1 x0.Multipliers.length n0_1), (.string ⟨(([112, 101, 110, 97, 108, 116, 121] : SF)).toArray⟩), (.slice a0_2 x0.Penalties.length n0_2)] : List Value).toArray 131 (0, 0)) :: (sb b21 (AU x0 a0_0 n0_0 a0_1 n0_1 a0_2 n0_2 a0_3 n0_3) 26) :: Lf103) /\ Sh F2 F4 /\ FI f [] [(1, (pt b21 0)), (4, (pt b35 0)), (6, (pt b91 0)), (23, (.slice (some ⟨b42, 0, none⟩) [({ word_ := ([112, 111, 105, 110, 116, 115] : SF), l_ := x0.Points } : BZ), ({ word_ := ([109, 117, 108, 116, 105, 112, 108, 105, 101, 114] : SF), l_ := x0.Multipliers } : BZ), ({ word_ := ([112, 101, 110, 97, 108, 116, 121] : SF), l_ := x0.Penalties } : BZ)].length 3)), (24, (vi ([({ word_ := ([112, 111, 105, 110, 116, 115] : SF), l_ := x0.Points } : BZ), ({ word_ := ([109, 117, 108, 116, 105, 112, 108, 105, 101, 114] : SF), l_ := x0.Multipliers } : BZ), ({ word_ := ([112, 101, 110, 97, 108, 116, 121] : SF), l_ := x0.Penalties } : BZ)].length : Int))), (25, (vi s50.1)), (30, (.slice ae89_1 x80.l_.length ne89_1)), (31, (vi (x80.l_.length : Int))), (32, (vi s99.1))] /\ Hf b35 s99.2 F4 Lf103) N ⟨(0, s50.2), F2, Lf54, ho97, hs95, (Si _), fI, hJ55⟩ ?_
     rintro m127 f w100 ⟨s99, F4, Lf103, hit128, hs101, le102, ⟨_, rfl⟩, hJ104⟩
     obtain ⟨m129, fl130, rfl, hb131, hnx132⟩ := AQ hit128
     refine Sq (Rg [0] ?_)
     refine Vs 1 ?_
     refine Nss ?_
     refine Cd hb131 (fun hb133 h134 => ?_) (fun hb133 h135 => ?_)
     ·refine Sc ?_
      refine Ac ?_
      refine Sq ?_
      refine Bk ?_
      refine Sq (Rg [0, 1, 2, 3] ?_)
      obtain ⟨x136, hx137, h139⟩ := bind_some h134
      obtain ⟨hi138, hx137'⟩ := Ap hx137
      obtain ⟨b140, o141, C142, E143, fz144, rfl, hF146, hE147⟩ := Su (Sk hse89_1 le102) hx137'
      obtain ⟨ae148_2, ne148_2, ae148_5, ne148_5, hc149, hbe148_2, hse148_2, hbe148_5, hse148_5⟩ := hE147 _ _ hx137'
      refine Ix hi138 ?_
      refine Lx 0 (hs101.pers _ _ hF146) hc149 ?_
      refine Al' 56 #[(vi 0), (vi 0), (.slice none ([] : List Expr).length 0), (vi 0), (vi 0), (.slice none ([] : List Expr).length 0)] hs101 (fun b150 w151 hs152 => ?_)
      refine St0 (Dq x136 ae148_2 ne148_2 ae148_5 ne148_5) hs152 (fun w153 hs154 => ?_)
      refine Nt ?_
      obtain ⟨j160, hj173, h174⟩ := bind_some h139
      refine RD 14 14 [(sb b150 (Dq x136 ae148_2 ne148_2 ae148_5 ne148_5) 56), (sb b91 (L2 x80 (some ⟨b140, o141, none⟩) ne89_1) 131), (some b42, .cells ([(.string ⟨(([112, 111, 105, 110, 116, 115] : SF)).toArray⟩), (.slice a0_0 x0.Points.length n0_0), (.string ⟨(([109, 117, 108, 116, 105, 112, 108, 105, 101, 114] : SF)).toArray⟩), (.slice a0_1 x0.Multipliers.length n0_1), (.string ⟨(([112, 101, 110, 97, 108, 116, 121] : SF)).toArray⟩), (.slice a0_2 x0.Penalties.length n0_2)] : List Value).toArray 131 (0, 0)), (sb b21 (AU x0 a0_0 n0_0 a0_1 n0_1 a0_2 n0_2 a0_3 n0_3) 26)] [] hs154 (fun f w => ∃ (F6 : Mem) (Lf161 : Own), HS w0 F0 w F6 ((sb b91 (L2 x80 (some ⟨b140, o141, none⟩) ne89_1) 131) :: (some b42, .cells ([(.string ⟨(([112, 111, 105, 110, 116, 115] : SF)).toArray⟩), (.slice a0_0 x0.Points.length n0_0), (.string ⟨(([109, 117, 108, 116, 105, 112, 108, 105, 101, 114] : SF)).toArray⟩), (.slice a0_1 x0.Multipliers.length n0_1), (.string ⟨(([112, 101, 110, 97, 108, 116, 121] : SF)).toArray⟩), (.slice a0_2 x0.Penalties.length n0_2)] : List Value).toArray 131 (0, 0)) :: (sb b21 (AU x0 a0_0 n0_0 a0_1 n0_1 a0_2 n0_2 a0_3 n0_3) 26) :: Lf161) /\ Sh F4 F6 /\ FI f [] [(1, (pt b21 0)), (4, (pt b35 0)), (6, (pt b91 0)), (23, (.slice (some ⟨b42, 0, none⟩) [({ word_ := ([112, 111, 105, 110, 116, 115] : SF), l_ := x0.Points } : BZ), ({ word_ := ([109, 117, 108, 116, 105, 112, 108, 105, 101, 114] : SF), l_ := x0.Multipliers } : BZ), ({ word_ := ([112, 101, 110, 97, 108, 116, 121] : SF), l_ := x0.Penalties } : BZ)].length 3)), (24, (vi ([({ word_ := ([112, 111, 105, 110, 116, 115] : SF), l_ := x0.Points } : BZ), ({ word_ := ([109, 117, 108, 116, 105, 112, 108, 105, 101, 114] : SF), l_ := x0.Multipliers } : BZ), ({ word_ := ([112, 101, 110, 97, 108, 116, 121] : SF), l_ := x0.Penalties } : BZ)].length : Int))), (25, (vi s50.1)), (30, (.slice (some ⟨b140, o141, none⟩) x80.l_.length ne89_1)), (31, (vi (x80.l_.length : Int))), (32, (vi s99.1))] /\ Hf b35 j160 F6 Lf161) (fun wd155 hw156 => ?_) ?_
      ·refine Dv [0] ?_
       refine Dl 1 (fun _ hq => (hq.1.2 1 _ _ rfl)) ?_
       obtain ⟨r175, hr176, h177⟩ := bind_some hj173
       refine Dt 2 38 9 (.string ⟨(r175).toArray⟩) (fun _ hq => AD (t := 9) (t' := 9) (x := (.tmp 37)) (y := (.const (.string ⟨([58, 32] : SF).toArray⟩))) (a := x80.word_) (b := ([58, 32] : SF)) (v := r175) rfl rfl hr176) ?_
       refine Dv [3] ?_
       refine Dl 4 (fun _ hq => (hq.1.2 0 _ _ rfl)) ?_
       refine Dv [8] ?_
       refine Dl 9 (fun _ hq => (hq.1.2 0 _ _ rfl)) ?_
       refine D1 5 ?_
       obtain ⟨r178, hr179, h180⟩ := bind_some h177
       refine DCl A8 hw156 (C6 N wd155 F4 hw156.pers (hG.mono ((le30.trans le53).trans le102)) x136.When ae148_2 ne148_2 hbe148_2 hse148_2 1 _ hr179) ?_
       rintro _ F7 w182 hs183 le184 rfl
       obtain ⟨r186, hr187, h188⟩ := bind_some h180
       refine Dt 6 42 9 (.string ⟨(r186).toArray⟩) (fun _ hq => AD (t := 9) (t' := 9) (x := (.tmp 38)) (y := (.tmp 41)) (a := r175) (b := r178) (v := r186) rfl rfl hr187) ?_
       obtain ⟨r189, hr190, h191⟩ := bind_some h188
       refine Dt 7 43 9 (.string ⟨(r189).toArray⟩) (fun _ hq => AD (t := 9) (t' := 9) (x := (.tmp 42)) (y := (.const (.string ⟨([32, 61, 62, 32] : SF).toArray⟩))) (a := r186) (b := ([32, 61, 62, 32] : SF)) (v := r189) rfl rfl hr190) ?_
       refine D1 10 ?_
       obtain ⟨r192, hr193, h194⟩ := bind_some h191
       refine DCl A8 hs183 (C6 N w182 F7 hs183.pers (hG.mono (((le30.trans le53).trans le102).trans le184)) x136.Then ae148_5 ne148_5 hbe148_5 (Sk hse148_5 le184) 1 _ hr193) ?_
       rintro _ F8 w196 hs197 le198 rfl
       obtain ⟨r200, hr201, h202⟩ := bind_some h194
       refine Dt 11 47 9 (.string ⟨(r200).toArray⟩) (fun _ hq => AD (t := 9) (t' := 9) (x := (.tmp 43)) (y := (.tmp 46)) (a := r189) (b := r192) (v := r200) rfl rfl hr201) ?_
       obtain ⟨r203, hr204, h205⟩ := bind_some h202
       refine Dt 12 48 9 (.string ⟨(r203).toArray⟩) (fun _ hq => AD (t := 9) (t' := 9) (x := (.tmp 47)) (y := (.const (.string ⟨([10] : SF).toArray⟩))) (a := r200) (b := ([10] : SF)) (v := r203) rfl rfl hr204) ?_
       refine D1 13 ?_
       obtain ⟨t209, ht210, h211⟩ := bind_some h205
       refine DCB G5 (Nm (L := [(sb b150 (Dq x136 ae148_2 ne148_2 ae148_5 ne148_5) 56), (sb b91 (L2 x80 (some ⟨b140, o141, none⟩) ne89_1) 131), (some b42, .cells ([(.string ⟨(([112, 111, 105, 110, 116, 115] : SF)).toArray⟩), (.slice a0_0 x0.Points.length n0_0), (.string ⟨(([109, 117, 108, 116, 105, 112, 108, 105, 101, 114] : SF)).toArray⟩), (.slice a0_1 x0.Multipliers.length n0_1), (.string ⟨(([112, 101, 110, 97, 108, 116, 121] : SF)).toArray⟩), (.slice a0_2 x0.Penalties.length n0_2)] : List Value).toArray 131 (0, 0)), (sb b21 (AU x0 a0_0 n0_0 a0_1 n0_1 a0_2 n0_2 a0_3 n0_3) 26)]) ht210 (Hf.mono _ _ _ _ hJ104 (le184.trans le198)) hs197) ?_
       rintro _ F9 w206 _ hs207 le208 ⟨rfl, Lf212, rfl, hJ213⟩
       have hs214 : HS w0 F0 w206 F9 ((sb b150 (Dq x136 ae148_2 ne148_2 ae148_5 ne148_5) 56) :: (sb b91 (L2 x80 (some ⟨b140, o141, none⟩) ne89_1) 131) :: (some b42, .cells ([(.string ⟨(([112, 111, 105, 110, 116, 115] : SF)).toArray⟩), (.slice a0_0 x0.Points.length n0_0), (.string ⟨(([109, 117, 108, 116, 105, 112, 108, 105, 101, 114] : SF)).toArray⟩), (.slice a0_1 x0.Multipliers.length n0_1), (.string ⟨(([112, 101, 110, 97, 108, 116, 121] : SF)).toArray⟩), (.slice a0_2 x0.Penalties.length n0_2)] : List Value).toArray 131 (0, 0)) :: (sb b21 (AU x0 a0_0 n0_0 a0_1 n0_1 a0_2 n0_2 a0_3 n0_3) 26) :: Lf212) := hs207
       refine ⟨Bu hs214 ((le184.trans le198).trans le208) (by simp) (zdT (by kernel_rfl)), ?_⟩
       obtain rfl := Aa h211
       exact SA (by kernel_rfl) ⟨F9, Lf212, hs214.dr0, ((le184.trans le198).trans le208), fI, hJ213⟩
      ·rintro f w157 ⟨F6, Lf161, hs158, le159, ⟨_, rfl⟩, hJ162⟩
       refine Aq ?_
       refine Ac ?_
       refine Rg [0, 1] ?_
       refine Vs 2 ?_
       refine Sd ?_
       have hn215 := AM h174 hnx132
       exact ⟨m129, Nat.lt_succ_self _, ((W64 (s99.1 + 1)), j160), F6, Lf161, hn215, hs158, (le102.trans le159), fI, hJ162⟩
     ·refine Ex ?_
      refine Av ?_
      refine Av ?_
      refine AE rfl ?_
      have ho216 := AX h135 hnx132
      exact .inl ⟨rfl, (s99.1, s99.2), F4, Lf103, ho216, hs101.dr0, le102, fI, hJ104⟩
    ·rintro f w116 ⟨s115, F5, Lf119, rfl, hs117, le118, ⟨_, rfl⟩, hJ120⟩
     have h217 := Bo h98
     refine Aq ?_
     refine Ac ?_
     refine Rg [0, 1] ?_
     refine Vs 2 ?_
     refine Sd ?_
     have hn218 := AM h217 hnx76
     exact ⟨m73, Nat.lt_succ_self _, ((W64 (s50.1 + 1)), s115.2), F5, Lf119, hn218, hs117, (le53.trans le118), fI, hJ120⟩
   ·refine Ex ?_
    refine Av ?_
    refine Av ?_
    refine AE rfl ?_
    have ho219 := AX h79 hnx76
    exact .inl ⟨rfl, (s50.1, s50.2), F2, Lf54, ho219, hs52.dr0, le53, fI, hJ55⟩
  ·rintro f w63 ⟨s62, F3, Lf66, rfl, hs64, le65, ⟨_, rfl⟩, hJ67⟩
   have h220 := Bo h49
   refine Ac ?_
   refine Sq ?_
   refine Sq (Rg [0, 1, 2, 3] ?_)
   refine Vs 1 ?_
   refine Ld hs64.at0 ?_
   refine Vs 2 ?_
   refine Nt ?_
   obtain ⟨o221, ho222, h223⟩ := bind_some h220
   refine So (fun f w => ∃ (s235 : (Int × SF)) (F11 : Mem) (Lf239 : Own), o221 = .done s235 /\ HS w0 F0 w F11 Lf239 /\ Sh F3 F11 /\ FI f [] [(4, (pt b35 0))] /\ Hf b35 s235.2 F11 Lf239) ?_ ?_
   ·refine Bk ?_
    refine Sg (by kernel_rfl) (fun m f w => ∃ (s224 : (Int × SF)) (F10 : Mem) (Lf228 : Own), A0 (CI N x0 r24 s62) m s224 = some o221 /\ HS w0 F0 w F10 Lf228 /\ Sh F3 F10 /\ FI f [] [(4, (pt b35 0)), (53, (.slice a0_3 x0.Repeats.length n0_3)), (54, (vi (x0.Repeats.length : Int))), (55, (vi s224.1))] /\ Hf b35 s224.2 F10 Lf228) N ⟨(0, s62.2), F3, Lf66, ho222, hs64.dr0, (Si _), fI, hJ67⟩ ?_
    rintro m243 f w225 ⟨s224, F10, Lf228, hit244, hs226, le227, ⟨_, rfl⟩, hJ229⟩
    obtain ⟨m245, fl246, rfl, hb247, hnx248⟩ := AQ hit244
    refine Sq (Rg [0] ?_)
    refine Vs 1 ?_
    refine Nss ?_
    refine Cd hb247 (fun hb249 h250 => ?_) (fun hb249 h251 => ?_)
    ·refine Sc ?_
     refine Ac ?_
     refine Sq ?_
     refine Bk ?_
     refine Sq (Rg [0, 1, 2, 3] ?_)
     obtain ⟨x252, hx253, h255⟩ := bind_some h250
     obtain ⟨hi254, hx253'⟩ := Ap hx253
     obtain ⟨b256, o257, C258, E259, fz260, rfl, hF262, hE263⟩ := Su (Sk hs0_3 ((le30.trans le65).trans le227)) hx253'
     obtain ⟨ae264_2, ne264_2, hc265, hbe264_2, hse264_2⟩ := (Az (hE263 _ _ hx253'))
     refine Ix hi254 ?_
     refine Lx 0 (hs226.pers _ _ hF262) hc265 ?_
     refine Al' 33 #[(vi 0), (vi 0), (.slice none ([] : List Expr).length 0)] hs226 (fun b266 w267 hs268 => ?_)
     refine St0 (Ag x252 ae264_2 ne264_2) hs268 (fun w269 hs270 => ?_)
     refine Nt ?_
     refine Rg [0, 1, 2, 3, 4] ?_
     refine Ld hs270.at0 ?_
     obtain ⟨r271, hr272, h273⟩ := bind_some h255
     refine Cl' A8 hs270 (C6 N w269 F10 hs270.pers (hG.mono ((le30.trans le65).trans le227)) x252 ae264_2 ne264_2 hbe264_2 hse264_2 1 _ hr272) ?_
     rintro _ F12 w275 hs276 le277 rfl
     obtain ⟨r279, hr280, h281⟩ := bind_some h273
     refine V 61 9 (AD (t := 9) (t' := 9) (x := (.const (.string ⟨([114, 101, 112, 101, 97, 116, 58, 32] : SF).toArray⟩))) (y := (.tmp 60)) (a := ([114, 101, 112, 101, 97, 116, 58, 32] : SF)) (b := r271) (v := r279) rfl rfl hr280) ?_
     obtain ⟨r282, hr283, h284⟩ := bind_some h281
     refine V 62 9 (AD (t := 9) (t' := 9) (x := (.tmp 61)) (y := (.const (.string ⟨([10] : SF).toArray⟩))) (a := r279) (b := ([10] : SF)) (v := r282) rfl rfl hr283) ?_
     obtain ⟨t288, ht289, h290⟩ := bind_some h284
     refine CB G5 (Nm (L := [(sb b266 (Ag x252 ae264_2 ne264_2) 33)]) ht289 (Hf.mono _ _ _ _ hJ229 le277) hs276) ?_
     rintro _ F13 w285 _ hs286 le287 ⟨rfl, Lf291, rfl, hJ292⟩
     have hs293 : HS w0 F0 w285 F13 ((sb b266 (Ag x252 ae264_2 ne264_2) 33) :: Lf291) := hs286
     refine Sd ?_
     refine Aq ?_
     refine Ac ?_
     refine Rg [0, 1] ?_
     refine Vs 2 ?_
     refine Sd ?_
     have hn294 := AM h290 hnx248
     exact ⟨m245, Nat.lt_succ_self _, ((W64 (s224.1 + 1)), t288), F13, Lf291, hn294, hs293.dr0, ((le227.trans le277).trans le287), fI, hJ292⟩
    ·refine Ex ?_
     refine Av ?_
     refine Av ?_
     refine AE rfl ?_
     have ho295 := AX h251 hnx248
     exact .inl ⟨rfl, (s224.1, s224.2), F10, Lf228, ho295, hs226, le227, fI, hJ229⟩
   ·rintro f w236 ⟨s235, F11, Lf239, rfl, hs237, le238, ⟨_, rfl⟩, hJ240⟩
    have h296 := Bo h223
    refine Ac ?_
    refine Sq (Rg [0, 1, 2] ?_)
    refine CB N9 (O2 (L := []) hJ240 hs237) ?_
    rintro _ _ w297 _ hs298 _ ⟨rfl, rfl, rfl⟩
    refine Vs 2 ?_
    refine Nt ?_
    refine Rt ?_
    obtain rfl := Aa h296
    exact Re [(.string ⟨(s235.2).toArray⟩), (vi 0)] hs298 rfl
def Ce (N : Nat) (x0 : SF) (x1 : (List Clause)) : (SF × Int) -> Option (Bi SF (SF × Int)) := fun s24 =>
 (bif (decide (s24.2 < (x1.length : Int))) then (((A3 x0 ([58, 32] : SF)).bind fun r61 => ((idx x1 s24.2).bind fun x64 => ((idx x1 s24.2).bind fun x78 => ((Db N x64.When).bind fun r84 => ((A3 r61 r84).bind fun r92 => ((A3 r92 ([32, 61, 62, 32] : SF)).bind fun r95 => ((Db N x78.Then).bind fun r98 => ((A3 r95 r98).bind fun r106 => ((A3 r106 ([10] : SF)).bind fun r109 => ((A3 s24.1 r109).bind fun r112 => some r112)))))))))).bind fun j53 => some (.next (j53, (W64 (s24.2 + 1))))) else some (.done (s24.1, s24.2)))
def Cx (N : Nat) (x0 : SF) (x1 : (List Clause)) : Option SF :=
 ((A0 (Ce N x0 x1) N (([] : SF), 0)).bind fun o => o.k (fun r => some r) (fun s33 => some s33.1))
theorem DO : Al Tryz.prog 110 := fun _ _ => by kernel_rfl
theorem Ef (N : Nat) (w0 : World) (F0 : Mem) (hF : SH w0 F0) (hG : B0 F0) (x0 : SF) (x1 : (List Clause)) (a1_0 : SG) (n1_0 : Nat) (hb1_0 : LC x1.length n1_0) (hs1_0 : SlA As F0 a1_0 x1) (r : SF) (h : Cx N x0 x1 = some r) :
  Calls Tryz.prog 110 ([(.string ⟨(x0).toArray⟩), (.slice a1_0 x1.length n1_0)] : List Value).toArray w0 (AJ w0 F0 fun F' v => v = (.string ⟨(r).toArray⟩)) := by
 have hs0 := Sj hF
 refine Go 34 Tryz.func110 ?_
 refine Sq (Rg [0] ?_)
 refine Vs 1 ?_
 refine Nss (Rg [0] ?_)
 refine Vs 1 ?_
 refine Nss ?_
 refine Sq (Rg [0] ?_)
 refine Vs 1 ?_
 refine Nt ?_
 obtain ⟨o21, ho22, h23⟩ := bind_some h
 refine So (fun f w => ∃ (s33 : (SF × Int)) (F2 : Mem), o21 = .done s33 /\ HS w0 F0 w F2 [] /\ Sh F0 F2 /\ FI f [] [(5, (.string ⟨(s33.1).toArray⟩))]) ?_ ?_
 ·refine Bk ?_
  refine Sg (by kernel_rfl) (fun m f w => ∃ (s24 : (SF × Int)) (F1 : Mem), A0 (Ce N x0 x1) m s24 = some o21 /\ HS w0 F0 w F1 [] /\ Sh F0 F1 /\ FI f [] [(0, (.string ⟨(x0).toArray⟩)), (1, (.slice a1_0 x1.length n1_0)), (5, (.string ⟨(s24.1).toArray⟩)), (6, (vi s24.2))]) N ⟨(([] : SF), 0), F0, ho22, hs0, (Si _), fI⟩ ?_
  rintro m39 f w25 ⟨s24, F1, hit40, hs26, le27, ⟨_, rfl⟩⟩
  obtain ⟨m41, fl42, rfl, hb43, hnx44⟩ := AQ hit40
  refine Sq ?_
  refine Sq (Rg [0, 1, 2, 3] ?_)
  refine Vs 4 ?_
  refine Nt ?_
  refine Cd hb43 (fun hb45 h46 => ?_) (fun hb45 h47 => ?_)
  ·refine Sc ?_
   refine Ac ?_
   refine Sq ?_
   refine Bk ?_
   obtain ⟨j53, hj59, h60⟩ := bind_some h46
   refine RD 21 21 [] [] hs26 (fun f w => ∃ (F3 : Mem), HS w0 F0 w F3 [] /\ Sh F1 F3 /\ FI f [] [(0, (.string ⟨(x0).toArray⟩)), (1, (.slice a1_0 x1.length n1_0)), (5, (.string ⟨(j53).toArray⟩)), (6, (vi s24.2))]) (fun wd48 hw49 => ?_) ?_
   ·refine Dvl [0, 1] [tt, tt, ff, ff, ff, ff, ff, ff, ff, ff, ff, ff, ff, ff, ff, ff, ff, ff, ff, ff, ff] ?_
    obtain ⟨r61, hr62, h63⟩ := bind_some hj59
    refine Dtl 2 15 9 (.string ⟨(r61).toArray⟩) [tt, tt, tt, ff, ff, ff, ff, ff, ff, ff, ff, ff, ff, ff, ff, ff, ff, ff, ff, ff, ff] (fun _ hq => AD (t := 9) (t' := 9) (x := (.tmp 14)) (y := (.const (.string ⟨([58, 32] : SF).toArray⟩))) (a := x0) (b := ([58, 32] : SF)) (v := r61) rfl rfl hr62) ?_
    refine Dvl [3, 4] [tt, tt, tt, tt, tt, ff, ff, ff, ff, ff, ff, ff, ff, ff, ff, ff, ff, ff, ff, ff, ff] ?_
    obtain ⟨x64, hx65, h67⟩ := bind_some h63
    obtain ⟨hi66, hx65'⟩ := Ap hx65
    obtain ⟨b68, o69, C70, E71, fz72, rfl, hF74, hE75⟩ := Su (Sk hs1_0 le27) hx65'
    obtain ⟨ae76_2, ne76_2, ae76_5, ne76_5, hc77, hbe76_2, hse76_2, hbe76_5, hse76_5⟩ := hE75 _ _ hx65'
    refine Di 5 hi66 ?_
    refine Dvl [6] [tt, tt, tt, tt, tt, tt, tt, ff, ff, ff, ff, ff, ff, ff, ff, ff, ff, ff, ff, ff, ff] ?_
    refine Dx 7 0 (fun _ hq => hq.1.1 _ _ hF74) hc77 ?_
    refine Dvl [11, 12] [tt, tt, tt, tt, tt, tt, tt, tt, ff, ff, ff, tt, tt, ff, ff, ff, ff, ff, ff, ff, ff] ?_
    obtain ⟨x78, hx79, h81⟩ := bind_some h67
    obtain ⟨hi80, hx79'⟩ := Ap hx79
    obtain ⟨ae82_2, ne82_2, ae82_5, ne82_5, hc83, hbe82_2, hse82_2, hbe82_5, hse82_5⟩ := hE75 _ _ hx79'
    refine Di 13 hi80 ?_
    refine Dvl [14] [tt, tt, tt, tt, tt, tt, tt, tt, ff, ff, ff, tt, tt, tt, tt, ff, ff, ff, ff, ff, ff] ?_
    refine Dx 15 3 (fun _ hq => hq.1.1 _ _ hF74) hc83 ?_
    refine D1 8 ?_
    obtain ⟨r84, hr85, h86⟩ := bind_some h81
    refine DCl Bp hw49 (DW N wd48 F1 hw49.pers (hG.mono le27) x64.When ae76_2 ne76_2 hbe76_2 hse76_2 _ hr85) ?_
    rintro _ F4 w88 hs89 le90 rfl
    obtain ⟨r92, hr93, h94⟩ := bind_some h86
    refine Dtl 9 22 9 (.string ⟨(r92).toArray⟩) [tt, tt, tt, tt, tt, tt, tt, tt, tt, tt, ff, tt, tt, tt, tt, tt, ff, ff, ff, ff, ff] (fun _ hq => AD (t := 9) (t' := 9) (x := (.tmp 15)) (y := (.tmp 21)) (a := r61) (b := r84) (v := r92) rfl rfl hr93) ?_
    obtain ⟨r95, hr96, h97⟩ := bind_some h94
    refine Dtl 10 23 9 (.string ⟨(r95).toArray⟩) [tt, tt, tt, tt, tt, tt, tt, tt, tt, tt, tt, tt, tt, tt, tt, tt, ff, ff, ff, ff, ff] (fun _ hq => AD (t := 9) (t' := 9) (x := (.tmp 22)) (y := (.const (.string ⟨([32, 61, 62, 32] : SF).toArray⟩))) (a := r92) (b := ([32, 61, 62, 32] : SF)) (v := r95) rfl rfl hr96) ?_
    refine D1 16 ?_
    obtain ⟨r98, hr99, h100⟩ := bind_some h97
    refine DCl Bp hs89 (DW N w88 F4 hs89.pers (hG.mono (le27.trans le90)) x78.Then ae82_5 ne82_5 hbe82_5 (Sk hse82_5 le90) _ hr99) ?_
    rintro _ F5 w102 hs103 le104 rfl
    obtain ⟨r106, hr107, h108⟩ := bind_some h100
    refine Dtl 17 30 9 (.string ⟨(r106).toArray⟩) [tt, tt, tt, tt, tt, tt, tt, tt, tt, tt, tt, tt, tt, tt, tt, tt, tt, tt, ff, ff, ff] (fun _ hq => AD (t := 9) (t' := 9) (x := (.tmp 23)) (y := (.tmp 29)) (a := r95) (b := r98) (v := r106) rfl rfl hr107) ?_
    obtain ⟨r109, hr110, h111⟩ := bind_some h108
    refine Dtl 18 31 9 (.string ⟨(r109).toArray⟩) [tt, tt, tt, tt, tt, tt, tt, tt, tt, tt, tt, tt, tt, tt, tt, tt, tt, tt, tt, ff, ff] (fun _ hq => AD (t := 9) (t' := 9) (x := (.tmp 30)) (y := (.const (.string ⟨([10] : SF).toArray⟩))) (a := r106) (b := ([10] : SF)) (v := r109) rfl rfl hr110) ?_
    obtain ⟨r112, hr113, h114⟩ := bind_some h111
    refine Dtl 19 32 9 (.string ⟨(r112).toArray⟩) [tt, tt, tt, tt, tt, tt, tt, tt, tt, tt, tt, tt, tt, tt, tt, tt, tt, tt, tt, tt, ff] (fun _ hq => AD (t := 9) (t' := 9) (x := (.tmp 13)) (y := (.tmp 31)) (a := s24.1) (b := r109) (v := r112) rfl rfl hr113) ?_
    refine Dvl [20] [tt, tt, tt, tt, tt, tt, tt, tt, tt, tt, tt, tt, tt, tt, tt, tt, tt, tt, tt, tt, tt] ?_
    obtain rfl := Aa h114
    exact SA (by kernel_rfl) ⟨F5, hs103, (le90.trans le104), fI⟩
   ·rintro f w50 ⟨F3, hs51, le52, ⟨_, rfl⟩⟩
    refine Aq ?_
    refine Ac ?_
    refine Rg [0, 1, 2] ?_
    refine Vs 3 ?_
    refine Sd ?_
    have hn115 := AM h60 hnx44
    exact ⟨m41, Nat.lt_succ_self _, (j53, (W64 (s24.2 + 1))), F3, hn115, hs51, (le27.trans le52), fI⟩
  ·refine Ex ?_
   refine Av ?_
   refine Av ?_
   refine AE rfl ?_
   have ho116 := AX h47 hnx44
   exact .inl ⟨rfl, (s24.1, s24.2), F1, ho116, hs26, le27, fI⟩
 ·rintro f w34 ⟨s33, F2, rfl, hs35, le36, ⟨_, rfl⟩⟩
  have h117 := Bo h23
  refine Ac ?_
  refine Sq (Rg [0, 1] ?_)
  refine Vs 2 ?_
  refine Nt ?_
  refine Rt ?_
  obtain rfl := Aa h117
  exact Re [(.string ⟨(s33.1).toArray⟩)] hs35 rfl
def CL (N : Nat) (x0 : Be) (r24 : Bool) (j40 : SF) : (SF × Int) -> Option (Bi (SF × Int) (SF × Int)) := fun s79 =>
 (bif (decide (s79.2 < (x0.Repeats.length : Int))) then ((idx x0.Repeats s79.2).bind fun x102 => ((Db N x102).bind fun r116 => ((A3 ([114, 101, 112, 101, 97, 116, 58, 32] : SF) r116).bind fun r124 => ((A3 r124 ([10] : SF)).bind fun r127 => ((A3 s79.1 r127).bind fun r130 => some (.next (r130, (W64 (s79.2 + 1))))))))) else some (.done (s79.1, s79.2)))
def Fe (N : Nat) (x0 : Be) : Option (SF × Int) :=
 ((Fd N x0).bind fun r24 => (bif (!r24) then some (([] : SF), 62) else (((Cx N ([112, 111, 105, 110, 116, 115] : SF) x0.Points).bind fun r46 => ((Cx N ([109, 117, 108, 116, 105, 112, 108, 105, 101, 114] : SF) x0.Multipliers).bind fun r54 => ((A3 r46 r54).bind fun r62 => ((Cx N ([112, 101, 110, 97, 108, 116, 121] : SF) x0.Penalties).bind fun r65 => ((A3 r62 r65).bind fun r73 => some r73))))).bind fun j40 => ((A0 (CL N x0 r24 j40) N (j40, 0)).bind fun o => o.k (fun r => some r) (fun s87 => some (s87.1, 0))))))
theorem KY : Al Tryz.prog 52 := fun _ _ => by kernel_rfl
theorem LG (N : Nat) (w0 : World) (F0 : Mem) (hF : SH w0 F0) (hG : B0 F0) (x0 : Be) (a0_0 : SG) (n0_0 : Nat) (hb0_0 : LC x0.Points.length n0_0) (hs0_0 : SlA As F0 a0_0 x0.Points) (a0_1 : SG) (n0_1 : Nat) (hb0_1 : LC x0.Multipliers.length n0_1) (hs0_1 : SlA As F0 a0_1 x0.Multipliers) (a0_2 : SG) (n0_2 : Nat) (hb0_2 : LC x0.Penalties.length n0_2) (hs0_2 : SlA As F0 a0_2 x0.Penalties) (a0_3 : SG) (n0_3 : Nat) (hb0_3 : LC x0.Repeats.length n0_3) (hs0_3 : SlA Ao F0 a0_3 x0.Repeats) (r : (SF × Int)) (h : Fe N x0 = some r) :
  Calls Tryz.prog 52 ([(.agg (AU x0 a0_0 n0_0 a0_1 n0_1 a0_2 n0_2 a0_3 n0_3))] : List Value).toArray w0 (AJ w0 F0 fun F' v => v = (.tuple #[(.string ⟨(r.1).toArray⟩), (vi r.2)])) := by
 have hs0 := Sj hF
 refine Go 38 Tryz.func52 ?_
 refine Sq (Rg [0, 1, 2] ?_)
 refine Bx' 26 (AU x0 a0_0 n0_0 a0_1 n0_1 a0_2 n0_2 a0_3 n0_3) hs0 (fun b21 w22 hs23 => ?_)
 refine Vs 2 ?_
 refine Nss ?_
 refine Sq (Rg [0, 1, 2] ?_)
 refine Ld hs23.at0 ?_
 obtain ⟨r24, hr25, h26⟩ := bind_some h
 refine Cl' KX hs23 (LF N w22 F0 hs23.pers x0 a0_0 n0_0 hb0_0 hs0_0 a0_1 n0_1 hb0_1 hs0_1 a0_2 n0_2 hb0_2 hs0_2 a0_3 n0_3 hb0_3 hs0_3 _ hr25) ?_
 rintro _ F1 w28 hs29 le30 rfl
 refine Vs 1 ?_
 refine Nt ?_
 refine Cd h26 (fun hb32 h33 => ?_) (fun hb32 h34 => ?_)
 ·refine Sq (Rg [0, 1] ?_)
  refine Vs 2 ?_
  refine Nt ?_
  refine Rt ?_
  refine Ae ?_
  obtain rfl := Aa h33
  exact Re [(.string ⟨(([] : SF)).toArray⟩), (vi 62)] hs29 rfl
 ·refine Sc ?_
  refine Ac ?_
  refine Sq ?_
  obtain ⟨j40, hj44, h45⟩ := bind_some h34
  refine RD 12 12 [(sb b21 (AU x0 a0_0 n0_0 a0_1 n0_1 a0_2 n0_2 a0_3 n0_3) 26)] [] hs29 (fun f w => ∃ (F2 : Mem), HS w0 F0 w F2 [(sb b21 (AU x0 a0_0 n0_0 a0_1 n0_1 a0_2 n0_2 a0_3 n0_3) 26)] /\ Sh F1 F2 /\ FI f [] [(1, (pt b21 0)), (4, (.string ⟨(j40).toArray⟩))]) (fun wd35 hw36 => ?_) ?_
  ·refine Dv [0] ?_
   refine Dl 1 (fun _ hq => (hq.1.2 0 _ _ rfl)) ?_
   refine Dv [3] ?_
   refine Dl 4 (fun _ hq => (hq.1.2 0 _ _ rfl)) ?_
   refine Dv [7] ?_
   refine Dl 8 (fun _ hq => (hq.1.2 0 _ _ rfl)) ?_
   refine D1 2 ?_
   obtain ⟨r46, hr47, h48⟩ := bind_some hj44
   refine DCl DO hw36 (Ef N wd35 F1 hw36.pers (hG.mono le30) (([112, 111, 105, 110, 116, 115] : SF)) x0.Points a0_0 n0_0 hb0_0 (Sk hs0_0 le30) _ hr47) ?_
   rintro _ F3 w50 hs51 le52 rfl
   refine D1 5 ?_
   obtain ⟨r54, hr55, h56⟩ := bind_some h48
   refine DCl DO hs51 (Ef N w50 F3 hs51.pers (hG.mono (le30.trans le52)) (([109, 117, 108, 116, 105, 112, 108, 105, 101, 114] : SF)) x0.Multipliers a0_1 n0_1 hb0_1 (Sk hs0_1 (le30.trans le52)) _ hr55) ?_
   rintro _ F4 w58 hs59 le60 rfl
   obtain ⟨r62, hr63, h64⟩ := bind_some h56
   refine Dt 6 15 9 (.string ⟨(r62).toArray⟩) (fun _ hq => AD (t := 9) (t' := 9) (x := (.tmp 11)) (y := (.tmp 14)) (a := r46) (b := r54) (v := r62) rfl rfl hr63) ?_
   refine D1 9 ?_
   obtain ⟨r65, hr66, h67⟩ := bind_some h64
   refine DCl DO hs59 (Ef N w58 F4 hs59.pers (hG.mono ((le30.trans le52).trans le60)) (([112, 101, 110, 97, 108, 116, 121] : SF)) x0.Penalties a0_2 n0_2 hb0_2 (Sk hs0_2 ((le30.trans le52).trans le60)) _ hr66) ?_
   rintro _ F5 w69 hs70 le71 rfl
   obtain ⟨r73, hr74, h75⟩ := bind_some h67
   refine Dt 10 19 9 (.string ⟨(r73).toArray⟩) (fun _ hq => AD (t := 9) (t' := 9) (x := (.tmp 15)) (y := (.tmp 18)) (a := r62) (b := r65) (v := r73) rfl rfl hr74) ?_
   refine Dv [11] ?_
   obtain rfl := Aa h75
   exact SA (by kernel_rfl) ⟨F5, hs70, ((le52.trans le60).trans le71), fI⟩
  ·rintro f w37 ⟨F2, hs38, le39, ⟨_, rfl⟩⟩
   refine Ac ?_
   refine Sq ?_
   refine Sq (Rg [0] ?_)
   refine Vs 1 ?_
   refine Nt ?_
   obtain ⟨o76, ho77, h78⟩ := bind_some h45
   refine So (fun f w => ∃ (s87 : (SF × Int)) (F7 : Mem), o76 = .done s87 /\ HS w0 F0 w F7 [] /\ Sh F2 F7 /\ FI f [] [(4, (.string ⟨(s87.1).toArray⟩))]) ?_ ?_
   ·refine Bk ?_
    refine Sg (by kernel_rfl) (fun m f w => ∃ (s79 : (SF × Int)) (F6 : Mem), A0 (CL N x0 r24 j40) m s79 = some o76 /\ HS w0 F0 w F6 [(sb b21 (AU x0 a0_0 n0_0 a0_1 n0_1 a0_2 n0_2 a0_3 n0_3) 26)] /\ Sh F2 F6 /\ FI f [] [(1, (pt b21 0)), (4, (.string ⟨(s79.1).toArray⟩)), (5, (vi s79.2))]) N ⟨(j40, 0), F2, ho77, hs38, (Si _), fI⟩ ?_
    rintro m93 f w80 ⟨s79, F6, hit94, hs81, le82, ⟨_, rfl⟩⟩
    obtain ⟨m95, fl96, rfl, hb97, hnx98⟩ := AQ hit94
    refine Sq ?_
    refine Sq (Rg [0, 1, 2, 3, 4] ?_)
    refine Vs 2 ?_
    refine Ld hs81.at0 ?_
    refine Vs 2 ?_
    refine Nt ?_
    refine Cd hb97 (fun hb99 h100 => ?_) (fun hb99 h101 => ?_)
    ·refine Sc ?_
     refine Ac ?_
     refine Sq ?_
     refine Bk ?_
     refine Rg [0, 1, 2, 3, 4, 5, 6, 7, 8, 9, 10] ?_
     refine Vs 2 ?_
     refine Ld hs81.at0 ?_
     refine Vs 1 ?_
     obtain ⟨x102, hx103, h105⟩ := bind_some h100
     obtain ⟨hi104, hx103'⟩ := Ap hx103
     obtain ⟨b106, o107, C108, E109, fz110, rfl, hF112, hE113⟩ := Su (Sk hs0_3 ((le30.trans le39).trans le82)) hx103'
     obtain ⟨ae114_2, ne114_2, hc115, hbe114_2, hse114_2⟩ := (Az (hE113 _ _ hx103'))
     refine Ix hi104 ?_
     refine Lx 0 (hs81.pers _ _ hF112) hc115 ?_
     obtain ⟨r116, hr117, h118⟩ := bind_some h105
     refine Cl' Bp hs81 (DW N w80 F6 hs81.pers (hG.mono ((le30.trans le39).trans le82)) x102 ae114_2 ne114_2 hbe114_2 hse114_2 _ hr117) ?_
     rintro _ F8 w120 hs121 le122 rfl
     obtain ⟨r124, hr125, h126⟩ := bind_some h118
     refine V 34 9 (AD (t := 9) (t' := 9) (x := (.const (.string ⟨([114, 101, 112, 101, 97, 116, 58, 32] : SF).toArray⟩))) (y := (.tmp 33)) (a := ([114, 101, 112, 101, 97, 116, 58, 32] : SF)) (b := r116) (v := r124) rfl rfl hr125) ?_
     obtain ⟨r127, hr128, h129⟩ := bind_some h126
     refine V 35 9 (AD (t := 9) (t' := 9) (x := (.tmp 34)) (y := (.const (.string ⟨([10] : SF).toArray⟩))) (a := r124) (b := ([10] : SF)) (v := r127) rfl rfl hr128) ?_
     obtain ⟨r130, hr131, h132⟩ := bind_some h129
     refine V 36 9 (AD (t := 9) (t' := 9) (x := (.tmp 27)) (y := (.tmp 35)) (a := s79.1) (b := r127) (v := r130) rfl rfl hr131) ?_
     refine Vs 1 ?_
     refine Sd ?_
     refine Aq ?_
     refine Ac ?_
     refine Rg [0, 1, 2] ?_
     refine Vs 3 ?_
     refine Sd ?_
     have hn133 := AM h132 hnx98
     exact ⟨m95, Nat.lt_succ_self _, (r130, (W64 (s79.2 + 1))), F8, hn133, hs121, (le82.trans le122), fI⟩
    ·refine Ex ?_
     refine Av ?_
     refine Av ?_
     refine AE rfl ?_
     have ho134 := AX h101 hnx98
     exact .inl ⟨rfl, (s79.1, s79.2), F6, ho134, hs81.dr0, le82, fI⟩
   ·rintro f w88 ⟨s87, F7, rfl, hs89, le90, ⟨_, rfl⟩⟩
    have h135 := Bo h78
    refine Ac ?_
    refine Sq (Rg [0, 1, 2] ?_)
    refine Vs 3 ?_
    refine Nt ?_
    refine Rt ?_
    obtain rfl := Aa h135
    exact Re [(.string ⟨(s87.1).toArray⟩), (vi 0)] hs89 rfl
def C4 (N : Nat) (x0 : Expr) : Option (SF × Int) :=
 ((Dm N x0).bind fun r24 => (bif (!r24) then some (([] : SF), 61) else ((Db N x0).bind fun r35 => some (r35, 0))))
theorem H3 : Al Tryz.prog 53 := fun _ _ => by kernel_rfl
theorem I7 (N : Nat) (w0 : World) (F0 : Mem) (hF : SH w0 F0) (hG : B0 F0) (x0 : Expr) (a0_2 : SG) (n0_2 : Nat) (hb0_2 : LC x0.Kids.length n0_2) (hs0_2 : SlA Ao F0 a0_2 x0.Kids) (r : (SF × Int)) (h : C4 N x0 = some r) :
  Calls Tryz.prog 53 ([(.agg (Ag x0 a0_2 n0_2))] : List Value).toArray w0 (AJ w0 F0 fun F' v => v = (.tuple #[(.string ⟨(r.1).toArray⟩), (vi r.2)])) := by
 have hs0 := Sj hF
 refine Go 9 Tryz.func53 ?_
 refine Sq (Rg [0, 1, 2] ?_)
 refine Bx' 33 (Ag x0 a0_2 n0_2) hs0 (fun b21 w22 hs23 => ?_)
 refine Vs 2 ?_
 refine Nss ?_
 refine Sq (Rg [0, 1, 2] ?_)
 refine Ld hs23.at0 ?_
 obtain ⟨r24, hr25, h26⟩ := bind_some h
 refine Cl' I2 hs23 (JD N w22 F0 hs23.pers x0 a0_2 n0_2 hb0_2 hs0_2 _ hr25) ?_
 rintro _ F1 w28 hs29 le30 rfl
 refine Vs 1 ?_
 refine Nt ?_
 refine Cd h26 (fun hb32 h33 => ?_) (fun hb32 h34 => ?_)
 ·refine Sq (Rg [0, 1] ?_)
  refine Vs 2 ?_
  refine Nt ?_
  refine Rt ?_
  refine Ae ?_
  obtain rfl := Aa h33
  exact Re [(.string ⟨(([] : SF)).toArray⟩), (vi 61)] hs29 rfl
 ·refine Sc ?_
  refine Ac ?_
  refine Sq (Rg [0, 1, 2, 3] ?_)
  refine Ld hs29.at0 ?_
  obtain ⟨r35, hr36, h37⟩ := bind_some h34
  refine Cl' Bp hs29 (DW N w28 F1 hs29.pers (hG.mono le30) x0 a0_2 n0_2 hb0_2 (Sk hs0_2 le30) _ hr36) ?_
  rintro _ F2 w39 hs40 le41 rfl
  refine Vs 2 ?_
  refine Nt ?_
  refine Rt ?_
  obtain rfl := Aa h37
  exact Re [(.string ⟨(r35).toArray⟩), (vi 0)] hs40 rfl
end Go.Proofs.YtaihlcdkcampbaaGreatDoor
