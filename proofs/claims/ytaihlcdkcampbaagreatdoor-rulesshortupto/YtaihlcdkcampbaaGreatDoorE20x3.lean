/- Lemmas of the claim RulesShortUpto, printed by a program of the claimant and by hand. No statement of the seat is proved here. -/
import Derived.Test.YtaihlcdkcampbaaGreatDoorE20x2
set_option linter.unusedVariables false
set_option linter.unusedSimpArgs false
set_option linter.unusedSectionVars false
set_option maxHeartbeats 4000000
set_option maxRecDepth 100000
namespace Go.Proofs.YtaihlcdkcampbaaGreatDoor
def Gk (N : Nat) (x0 : Du) (r36 : (List Clause)) : (Int × Int) -> Option (BX (Int × Int) (Int × Int)) := fun s47 =>
 (bif (decide (s47.2 < (r36.length : Int))) then ((idx r36 s47.2).bind fun x73 => ((EW N x73).bind fun r92 => (bif (!r92) then some (.ret (62, (W64 (s47.1 + 1)))) else some (.next ((W64 (s47.1 + 1)), (W64 (s47.2 + 1))))))) else some (.done (s47.1, s47.2)))
def Gj (N : Nat) (x0 : Du) (r36 : (List Clause)) (s57 : (Int × Int)) : (Int × Int) -> Option (BX (Int × Int) (Int × Int)) := fun s109 =>
 (bif (decide (s109.2 < (x0.Repeats.length : Int))) then ((idx x0.Repeats s109.2).bind fun x132 => ((HR N x132 1).bind fun r151 => (bif (!r151) then some (.ret (62, (W64 (s109.1 + 1)))) else some (.next ((W64 (s109.1 + 1)), (W64 (s109.2 + 1))))))) else some (.done (s109.1, s109.2)))
def Jr (N : Nat) (x0 : Du) : Option (Int × Int) :=
 (bif (decide ((max (max (max (x0.Points.length : Int) (x0.Multipliers.length : Int)) (x0.Penalties.length : Int)) (x0.Repeats.length : Int)) > 64)) then some (2, 0) else ((BZ N ([x0.Points, x0.Multipliers, x0.Penalties])).bind fun r36 => ((Br (Gk N x0 r36) N (0, 0)).bind fun o => o.k (fun r => some r) (fun s57 => ((Br (Gj N x0 r36 s57) N (s57.1, 0)).bind fun o => o.k (fun r => some r) (fun s118 => some (0, 0)))))))
theorem KA : An Tryz.prog 70 := fun _ _ => by kernel_rfl
theorem La (N : Nat) (w0 : World) (F0 : Mem) (hF : Sz w0 F0) (x0 : Du) (a0_0 : Sy) (n0_0 : Nat) (hb0_0 : LC x0.Points.length n0_0) (hs0_0 : SlA AB F0 a0_0 x0.Points) (a0_1 : Sy) (n0_1 : Nat) (hb0_1 : LC x0.Multipliers.length n0_1) (hs0_1 : SlA AB F0 a0_1 x0.Multipliers) (a0_2 : Sy) (n0_2 : Nat) (hb0_2 : LC x0.Penalties.length n0_2) (hs0_2 : SlA AB F0 a0_2 x0.Penalties) (a0_3 : Sy) (n0_3 : Nat) (hb0_3 : LC x0.Repeats.length n0_3) (hs0_3 : SlA Ao F0 a0_3 x0.Repeats) (r : (Int × Int)) (h : Jr N x0 = some r) :
  Calls Tryz.prog 70 ([(.agg (Bx x0 a0_0 n0_0 a0_1 n0_1 a0_2 n0_2 a0_3 n0_3))] : List Value).toArray w0 (AU w0 F0 fun F' v => v = (.tuple #[(vi r.1), (vi r.2)])) := by
 have hs0 := R7 hF
 refine Go 57 Tryz.func70 ?_
 refine Sq (Rg [0, 1, 2] ?_)
 refine Bx' 26 (Bx x0 a0_0 n0_0 a0_1 n0_1 a0_2 n0_2 a0_3 n0_3) hs0 (fun b21 w22 hs23 => ?_)
 refine Vs 2 ?_
 refine Nss ?_
 refine Sq (Rg [0, 1, 2, 3, 4, 5, 6, 7, 8, 9, 10, 11, 12, 13] ?_)
 refine Vs 1 ?_
 refine Ld hs23.at0 ?_
 refine Vs 2 ?_
 refine Ld hs23.at0 ?_
 refine Vs 2 ?_
 refine Ld hs23.at0 ?_
 refine Vs 2 ?_
 refine Ld hs23.at0 ?_
 refine Vs 1 ?_
 refine V 21 3 (Pa (x := (.tmp 11)) (y := (.tmp 14)) (z := (.tmp 17)) (u := (.tmp 20)) (ats := #[3, 3, 3, 3]) (a := (x0.Points.length : Int)) (b := (x0.Multipliers.length : Int)) (c := (x0.Penalties.length : Int)) (d := (x0.Repeats.length : Int)) rfl rfl rfl rfl) ?_
 refine Vs 1 ?_
 refine Nt ?_
 refine Cd h (fun hb24 h25 => ?_) (fun hb24 h26 => ?_)
 ·refine Sq (Rg [0, 1] ?_)
  refine Vs 2 ?_
  refine Nt ?_
  refine Rt ?_
  refine Af ?_
  obtain rfl := Aa h25
  exact Re [(vi 2), (vi 0)] hs23 rfl
 ·refine Sc ?_
  refine Ac ?_
  refine Sq (Rg [0] ?_)
  refine Vs 1 ?_
  refine Nss ?_
  refine Sq (Rg [0, 1, 2, 3, 4, 5, 6, 7, 8, 9] ?_)
  refine Vs 1 ?_
  refine Ld hs23.at0 ?_
  refine Vs 1 ?_
  refine Ld hs23.at0 ?_
  refine Vs 1 ?_
  refine Ld hs23.at0 ?_
  refine Bs 23 [(.slice a0_0 x0.Points.length n0_0), (.slice a0_1 x0.Multipliers.length n0_1), (.slice a0_2 x0.Penalties.length n0_2)] hs23 (fun b27 w28 hs29 => ?_)
  have hr31 : Au (tSl AB) 23 F0 (some ⟨b27, 0, none⟩) 3 [x0.Points, x0.Multipliers, x0.Penalties] (some b27, .cells ([(.slice a0_0 x0.Points.length n0_0), (.slice a0_1 x0.Multipliers.length n0_1), (.slice a0_2 x0.Penalties.length n0_2)] : List Value).toArray 23 (0, 0)) := Sr ⟨⟨a0_0, n0_0, rfl, hb0_0, hs0_0⟩, ⟨⟨a0_1, n0_1, rfl, hb0_1, hs0_1⟩, ⟨⟨a0_2, n0_2, rfl, hb0_2, hs0_2⟩, rfl⟩⟩⟩ (by simp)
  have hb35 := Sn hr31
  obtain ⟨F1, hs32, le33, hs34⟩ := hs29.fr0 hr31
  obtain ⟨r36, hr37, h38⟩ := bind_some h26
  refine Cl' CT hs32 (C4 N w28 F1 hs32.pers ([x0.Points, x0.Multipliers, x0.Penalties]) (some ⟨b27, 0, none⟩) 3 hb35 hs34 _ hr37) ?_
  rintro _ F2 w40 hs41 le42 ⟨ar36_0_0, nr36_0_0, rfl, hbr36_0_0, hsr36_0_0⟩
  refine Vs 2 ?_
  refine Nt ?_
  obtain ⟨o44, ho45, h46⟩ := bind_some h38
  refine Se (fun f w => ∃ (s57 : (Int × Int)) (F4 : Mem), o44 = .done s57 /\ HS w0 F0 w F4 [(sb b21 (Bx x0 a0_0 n0_0 a0_1 n0_1 a0_2 n0_2 a0_3 n0_3) 26)] /\ R5 F2 F4 /\ FI f [] [(1, (pt b21 0)), (4, (vi s57.1))]) ?_ ?_
  ·refine Bk ?_
   refine R4 (by kernel_rfl) (fun m f w => ∃ (s47 : (Int × Int)) (F3 : Mem), Br (Gk N x0 r36) m s47 = some o44 /\ HS w0 F0 w F3 [(sb b21 (Bx x0 a0_0 n0_0 a0_1 n0_1 a0_2 n0_2 a0_3 n0_3) 26)] /\ R5 F2 F3 /\ FI f [] [(1, (pt b21 0)), (4, (vi s47.1)), (30, (.slice ar36_0_0 r36.length nr36_0_0)), (31, (vi (r36.length : Int))), (32, (vi s47.2))]) N ⟨(0, 0), F2, ho45, hs41, (R6 _), fI⟩ ?_
   rintro m64 f w48 ⟨s47, F3, hit65, hs49, le50, ⟨_, rfl⟩⟩
   obtain ⟨m66, fl67, rfl, hb68, hnx69⟩ := A7 hit65
   refine Sq (Rg [0] ?_)
   refine Vs 1 ?_
   refine Nss ?_
   refine Cd hb68 (fun hb70 h71 => ?_) (fun hb70 h72 => ?_)
   ·refine Sc ?_
    refine Ac ?_
    refine Sq ?_
    refine Bk ?_
    refine Sq (Rg [0, 1, 2, 3] ?_)
    obtain ⟨x73, hx74, h76⟩ := bind_some h71
    obtain ⟨hi75, hx74'⟩ := Ay hx74
    obtain ⟨b77, o78, C79, E80, fz81, rfl, hF83, hE84⟩ := Sh (R8 hsr36_0_0 le50) hx74'
    obtain ⟨ae85_2, ne85_2, ae85_5, ne85_5, hc86, hbe85_2, hse85_2, hbe85_5, hse85_5⟩ := hE84 _ _ hx74'
    refine Ix hi75 ?_
    refine Lx 0 (hs49.pers _ _ hF83) hc86 ?_
    refine Al' 56 #[(vi 0), (vi 0), (.slice none ([] : List Expr).length 0), (vi 0), (vi 0), (.slice none ([] : List Expr).length 0)] hs49 (fun b87 w88 hs89 => ?_)
    refine St0 (H3 x73 ae85_2 ne85_2 ae85_5 ne85_5) hs89 (fun w90 hs91 => ?_)
    refine Nss (Rg [0, 1, 2] ?_)
    refine Vs 3 ?_
    refine Nss (Rg [0, 1, 2] ?_)
    refine Ld hs91.at0 ?_
    obtain ⟨r92, hr93, h94⟩ := bind_some h76
    refine Cl' Gz hs91 (G8 N w90 F3 hs91.pers x73 ae85_2 ne85_2 hbe85_2 hse85_2 ae85_5 ne85_5 hbe85_5 hse85_5 _ hr93) ?_
    rintro _ F5 w96 hs97 le98 rfl
    refine Vs 1 ?_
    refine Nt ?_
    refine Cd h94 (fun hb100 h101 => ?_) (fun hb100 h102 => ?_)
    ·refine Sq (Rg [0, 1, 2] ?_)
     refine Vs 3 ?_
     refine Nt ?_
     refine Rt ?_
     refine Ah ?_
     refine Af ?_
     refine Af ?_
     refine Ah ?_
     have hret := Cf h101 hnx69
     subst hret
     refine .inr ?_
     refine Af ?_
     obtain rfl := Aa h46
     exact Re [(vi 62), (vi (W64 (s47.1 + 1)))] hs97 rfl
    ·refine Sc ?_
     refine Ap ?_
     refine Ac ?_
     refine Rg [0, 1] ?_
     refine Vs 2 ?_
     refine RY ?_
     have hn103 := A0 h102 hnx69
     exact ⟨m66, Nat.lt_succ_self _, ((W64 (s47.1 + 1)), (W64 (s47.2 + 1))), F5, hn103, hs97.dr0, (le50.trans le98), fI⟩
   ·refine Ex ?_
    refine AC ?_
    refine AC ?_
    refine AV rfl ?_
    have ho104 := Bd h72 hnx69
    exact .inl ⟨rfl, (s47.1, s47.2), F3, ho104, hs49, le50, fI⟩
  ·rintro f w58 ⟨s57, F4, rfl, hs59, le60, ⟨_, rfl⟩⟩
   have h105 := Cu h46
   refine Ac ?_
   refine Sq ?_
   refine Sq (Rg [0, 1, 2, 3] ?_)
   refine Vs 1 ?_
   refine Ld hs59.at0 ?_
   refine Vs 2 ?_
   refine Nt ?_
   obtain ⟨o106, ho107, h108⟩ := bind_some h105
   refine Se (fun f w => ∃ (s118 : (Int × Int)) (F7 : Mem), o106 = .done s118 /\ HS w0 F0 w F7 [] /\ R5 F4 F7 /\ FI f [] []) ?_ ?_
   ·refine Bk ?_
    refine R4 (by kernel_rfl) (fun m f w => ∃ (s109 : (Int × Int)) (F6 : Mem), Br (Gj N x0 r36 s57) m s109 = some o106 /\ HS w0 F0 w F6 [] /\ R5 F4 F6 /\ FI f [] [(4, (vi s109.1)), (44, (.slice a0_3 x0.Repeats.length n0_3)), (45, (vi (x0.Repeats.length : Int))), (46, (vi s109.2))]) N ⟨(s57.1, 0), F4, ho107, hs59.dr0, (R6 _), fI⟩ ?_
    rintro m123 f w110 ⟨s109, F6, hit124, hs111, le112, ⟨_, rfl⟩⟩
    obtain ⟨m125, fl126, rfl, hb127, hnx128⟩ := A7 hit124
    refine Sq (Rg [0] ?_)
    refine Vs 1 ?_
    refine Nss ?_
    refine Cd hb127 (fun hb129 h130 => ?_) (fun hb129 h131 => ?_)
    ·refine Sc ?_
     refine Ac ?_
     refine Sq ?_
     refine Bk ?_
     refine Sq (Rg [0, 1, 2, 3] ?_)
     obtain ⟨x132, hx133, h135⟩ := bind_some h130
     obtain ⟨hi134, hx133'⟩ := Ay hx133
     obtain ⟨b136, o137, C138, E139, fz140, rfl, hF142, hE143⟩ := Sh (R8 hs0_3 (((le33.trans le42).trans le60).trans le112)) hx133'
     obtain ⟨ae144_2, ne144_2, hc145, hbe144_2, hse144_2⟩ := (AR (hE143 _ _ hx133'))
     refine Ix hi134 ?_
     refine Lx 0 (hs111.pers _ _ hF142) hc145 ?_
     refine Al' 33 #[(vi 0), (vi 0), (.slice none ([] : List Expr).length 0)] hs111 (fun b146 w147 hs148 => ?_)
     refine St0 (Ae x132 ae144_2 ne144_2) hs148 (fun w149 hs150 => ?_)
     refine Nss (Rg [0, 1, 2] ?_)
     refine Vs 3 ?_
     refine Nss (Rg [0, 1, 2] ?_)
     refine Ld hs150.at0 ?_
     obtain ⟨r151, hr152, h153⟩ := bind_some h135
     refine Cl' GH hs150 (HH N w149 F6 hs150.pers x132 ae144_2 ne144_2 hbe144_2 hse144_2 1 _ hr152) ?_
     rintro _ F8 w155 hs156 le157 rfl
     refine Vs 1 ?_
     refine Nt ?_
     refine Cd h153 (fun hb159 h160 => ?_) (fun hb159 h161 => ?_)
     ·refine Sq (Rg [0, 1, 2] ?_)
      refine Vs 3 ?_
      refine Nt ?_
      refine Rt ?_
      refine Ah ?_
      refine Af ?_
      refine Af ?_
      refine Ah ?_
      have hret := Cf h160 hnx128
      subst hret
      refine .inr ?_
      refine Af ?_
      obtain rfl := Aa h108
      exact Re [(vi 62), (vi (W64 (s109.1 + 1)))] hs156 rfl
     ·refine Sc ?_
      refine Ap ?_
      refine Ac ?_
      refine Rg [0, 1] ?_
      refine Vs 2 ?_
      refine RY ?_
      have hn162 := A0 h161 hnx128
      exact ⟨m125, Nat.lt_succ_self _, ((W64 (s109.1 + 1)), (W64 (s109.2 + 1))), F8, hn162, hs156.dr0, (le112.trans le157), fI⟩
    ·refine Ex ?_
     refine AC ?_
     refine AC ?_
     refine AV rfl ?_
     have ho163 := Bd h131 hnx128
     exact .inl ⟨rfl, (s109.1, s109.2), F6, ho163, hs111, le112, fI⟩
   ·rintro f w119 ⟨s118, F7, rfl, hs120, le121, ⟨_, rfl⟩⟩
    have h164 := Cu h108
    refine Ac ?_
    refine Sq (Rg [0, 1] ?_)
    refine Vs 2 ?_
    refine Nt ?_
    refine Rt ?_
    obtain rfl := Aa h164
    exact Re [(vi 0), (vi 0)] hs120 rfl
def Jq (N : Nat) (x0 : Du) : Option Bool :=
 ((Jr N x0).bind fun r24 => some (r24.1 == 0))
theorem Kz : An Tryz.prog 54 := fun _ _ => by kernel_rfl
theorem K9 (N : Nat) (w0 : World) (F0 : Mem) (hF : Sz w0 F0) (x0 : Du) (a0_0 : Sy) (n0_0 : Nat) (hb0_0 : LC x0.Points.length n0_0) (hs0_0 : SlA AB F0 a0_0 x0.Points) (a0_1 : Sy) (n0_1 : Nat) (hb0_1 : LC x0.Multipliers.length n0_1) (hs0_1 : SlA AB F0 a0_1 x0.Multipliers) (a0_2 : Sy) (n0_2 : Nat) (hb0_2 : LC x0.Penalties.length n0_2) (hs0_2 : SlA AB F0 a0_2 x0.Penalties) (a0_3 : Sy) (n0_3 : Nat) (hb0_3 : LC x0.Repeats.length n0_3) (hs0_3 : SlA Ao F0 a0_3 x0.Repeats) (r : Bool) (h : Jq N x0 = some r) :
  Calls Tryz.prog 54 ([(.agg (Bx x0 a0_0 n0_0 a0_1 n0_1 a0_2 n0_2 a0_3 n0_3))] : List Value).toArray w0 (AU w0 F0 fun F' v => v = (.bool r)) := by
 have hs0 := R7 hF
 refine Go 12 Tryz.func54 ?_
 refine Sq (Rg [0, 1] ?_)
 refine Bx' 26 (Bx x0 a0_0 n0_0 a0_1 n0_1 a0_2 n0_2 a0_3 n0_3) hs0 (fun b21 w22 hs23 => ?_)
 refine Vs 1 ?_
 refine Nss (Rg [0, 1, 2, 3, 4, 5, 6] ?_)
 refine Ld hs23.at0 ?_
 obtain ⟨r24, hr25, h26⟩ := bind_some h
 refine Cl' KA hs23 (La N w22 F0 hs23.pers x0 a0_0 n0_0 hb0_0 hs0_0 a0_1 n0_1 hb0_1 hs0_1 a0_2 n0_2 hb0_2 hs0_2 a0_3 n0_3 hb0_3 hs0_3 _ hr25) ?_
 rintro _ F1 w28 hs29 le30 rfl
 refine Vs 5 ?_
 refine Nss (Rg [0, 1, 2] ?_)
 refine Vs 3 ?_
 refine Nt ?_
 refine Rt ?_
 obtain rfl := Aa h26
 exact Re [(.bool (r24.1 == 0))] hs29 rfl
def Jo (N : Nat) (x0 : Du) (x1 : (List Int)) : Option Int :=
 ((Jq N x0).bind fun r24 => (bif (!r24) then some 62 else ((Cr N x1).bind fun r35 => (bif (!r35) then some 63 else some 0))))
theorem Kw : An Tryz.prog 106 := fun _ _ => by kernel_rfl
theorem K6 (N : Nat) (w0 : World) (F0 : Mem) (hF : Sz w0 F0) (x0 : Du) (a0_0 : Sy) (n0_0 : Nat) (hb0_0 : LC x0.Points.length n0_0) (hs0_0 : SlA AB F0 a0_0 x0.Points) (a0_1 : Sy) (n0_1 : Nat) (hb0_1 : LC x0.Multipliers.length n0_1) (hs0_1 : SlA AB F0 a0_1 x0.Multipliers) (a0_2 : Sy) (n0_2 : Nat) (hb0_2 : LC x0.Penalties.length n0_2) (hs0_2 : SlA AB F0 a0_2 x0.Penalties) (a0_3 : Sy) (n0_3 : Nat) (hb0_3 : LC x0.Repeats.length n0_3) (hs0_3 : SlA Ao F0 a0_3 x0.Repeats) (x1 : (List Int)) (a1_0 : Sy) (n1_0 : Nat) (hb1_0 : LC x1.length n1_0) (hs1_0 : SlA Bu F0 a1_0 x1) (r : Int) (h : Jo N x0 x1 = some r) :
  Calls Tryz.prog 106 ([(.agg (Bx x0 a0_0 n0_0 a0_1 n0_1 a0_2 n0_2 a0_3 n0_3)), (.slice a1_0 x1.length n1_0)] : List Value).toArray w0 (AU w0 F0 fun F' v => v = (vi r)) := by
 have hs0 := R7 hF
 refine Go 13 Tryz.func106 ?_
 refine Sq (Rg [0, 1] ?_)
 refine Bx' 26 (Bx x0 a0_0 n0_0 a0_1 n0_1 a0_2 n0_2 a0_3 n0_3) hs0 (fun b21 w22 hs23 => ?_)
 refine Vs 1 ?_
 refine Nss ?_
 refine Bk ?_
 refine Sq (Rg [0, 1, 2, 3] ?_)
 refine Ld hs23.at0 ?_
 obtain ⟨r24, hr25, h26⟩ := bind_some h
 refine Cl' Kz hs23 (K9 N w22 F0 hs23.pers x0 a0_0 n0_0 hb0_0 hs0_0 a0_1 n0_1 hb0_1 hs0_1 a0_2 n0_2 hb0_2 hs0_2 a0_3 n0_3 hb0_3 hs0_3 _ hr25) ?_
 rintro _ F1 w28 hs29 le30 rfl
 refine Vs 2 ?_
 refine Nt ?_
 refine Cd h26 (fun hb32 h33 => ?_) (fun hb32 h34 => ?_)
 ·refine Sq (Rg [0] ?_)
  refine Vs 1 ?_
  refine Nt ?_
  refine Rt ?_
  refine Ah ?_
  refine Af ?_
  obtain rfl := Aa h33
  exact Re [(vi 62)] hs29 rfl
 ·refine Sq (Rg [0, 1, 2, 3] ?_)
  refine Vs 1 ?_
  obtain ⟨r35, hr36, h37⟩ := bind_some h34
  refine Cl' Ep hs29 (EO N w28 F1 hs29.pers x1 a1_0 n1_0 hb1_0 (R8 hs1_0 le30) _ hr36) ?_
  rintro _ F2 w39 hs40 le41 rfl
  refine Vs 2 ?_
  refine Nt ?_
  refine Cd h37 (fun hb43 h44 => ?_) (fun hb43 h45 => ?_)
  ·refine Sq (Rg [0] ?_)
   refine Vs 1 ?_
   refine Nt ?_
   refine Rt ?_
   refine Ah ?_
   refine Af ?_
   obtain rfl := Aa h44
   exact Re [(vi 63)] hs40 rfl
  ·refine Sc ?_
   refine Ap ?_
   refine Ac ?_
   refine Sq (Rg [0] ?_)
   refine Vs 1 ?_
   refine Nt ?_
   refine Rt ?_
   obtain rfl := Aa h45
   exact Re [(vi 0)] hs40 rfl



def fi {α : Type} (p : α -> Bool) (l : List α) : Int := if l.any p then (l.findIdx p : Int) else -1
section
variable {N : Nat} {f : List Int}
def isT (f : List Int) (c : Clause) : Bool := val f c.When == 1
noncomputable def MX (e : Expr) (f : List Int) : Int × Int := if HN e = false then (0, 61) else if fac f = false then (0, 63) else (val f e, 0)
theorem QI {e : Expr} (h : HN e = true) : kd e ≠ 0 := by unfold HN at h; simp at h; exact h.2
theorem O8 (hN : 100 < N) {e : Expr} (h : Fit N e) : EI N e f = some (MX e f) := by
 unfold EI MX
 rw [LT h, Option.bind_some, LS hN]
 cases h1 : HN e
 ·rfl
 ·cases h2 : fac f
  ·rfl
  ·rw [Option.bind_some, N2 h2 h (QI h1)]; rfl
end
section
variable {N : Nat} {f : List Int}
end
theorem QX {x : Expr} (h : MK x) : ∃ n0, ∀ N, n0 <= N -> Fit N x := by
 obtain ⟨n, hn⟩ := h
 exact ⟨3518437208781 + (2 * n + 10), fun N hN => ⟨n, hn.wide (by omega), by omega⟩⟩
def B4 (N : Nat) (x0 : Int) : Option Expr :=
 some ({ Op := 1, Value := x0, Kids := ([] : List Expr) } : Expr)
theorem Ci : An Tryz.prog 191 := fun _ _ => by kernel_rfl
theorem Cv (N : Nat) (w0 : World) (F0 : Mem) (hF : Sz w0 F0) (x0 : Int) (r : Expr) (h : B4 N x0 = some r) :
  Calls Tryz.prog 191 ([(vi x0)] : List Value).toArray w0 (AU w0 F0 fun F' v => ∃ (aq0_2 : Sy) (nq0_2 : Nat), v = (.agg (Ae r aq0_2 nq0_2)) /\ LC r.Kids.length nq0_2 /\ SlA Ao F' aq0_2 r.Kids) := by
 have hs0 := R7 hF
 refine Go 5 Tryz.func191 ?_
 refine Sq (Rg [0] ?_)
 refine Al' 33 #[(vi 0), (vi 0), (.slice none ([] : List Expr).length 0)] hs0 (fun b21 w22 hs23 => ?_)
 refine Nss (Rg [0, 1, 2] ?_)
 refine Vs 2 ?_
 refine St0 #[(vi 1), (vi x0), (.slice none ([] : List Expr).length 0)] hs23 (fun w24 hs25 => ?_)
 refine Nt ?_
 refine Rt ?_
 obtain rfl := Aa h
 exact ⟨rfl, (.agg #[(vi 1), (vi x0), (.slice none ([] : List Expr).length 0)]), Av (l := [.cell 2 33]) (by kernel_rfl) (vs := [(.agg #[(vi 1), (vi x0), (.slice none ([] : List Expr).length 0)])]) ⟨b21, 0, rfl, Ai (t := 33) (g := true) (s := 3) (by kernel_rfl) hs25.at0 rfl (by decide), trivial⟩, (.agg #[(vi 1), (vi x0), (.slice none ([] : List Expr).length 0)]), F0, rfl, hs25.clear, ⟨none, 0, rfl, R9, (.inl rfl)⟩⟩
def A8 (N : Nat) (x0 : Bool) : Option Expr :=
 ((B4 N 0).bind fun r31 => ((B4 N 0).bind fun r39 => some ({ Op := (bif x0 then 6 else 7), Value := 0, Kids := [r31, r39] } : Expr)))
theorem A3 : An Tryz.prog 188 := fun _ _ => by kernel_rfl
theorem Ba (N : Nat) (w0 : World) (F0 : Mem) (hF : Sz w0 F0) (x0 : Bool) (r : Expr) (h : A8 N x0 = some r) :
  Calls Tryz.prog 188 ([(.bool x0)] : List Value).toArray w0 (AU w0 F0 fun F' v => ∃ (aq0_2 : Sy) (nq0_2 : Nat), v = (.agg (Ae r aq0_2 nq0_2)) /\ LC r.Kids.length nq0_2 /\ SlA Ao F' aq0_2 r.Kids) := by
 have hs0 := R7 hF
 refine Go 10 Tryz.func188 ?_
 refine Sq (Rg [0] ?_)
 refine Al' 33 #[(vi 0), (vi 0), (.slice none ([] : List Expr).length 0)] hs0 (fun b21 w22 hs23 => ?_)
 refine Nss (Rg [0] ?_)
 refine Vs 1 ?_
 refine Nss ?_
 refine Sq (Rg [0] ?_)
 refine Vs 1 ?_
 refine Nt ?_
 refine Se (fun f w => ∃ (F1 : Mem), HS w0 F0 w F1 [(sb b21 #[(vi 0), (vi 0), (.slice none ([] : List Expr).length 0)] 33)] /\ R5 F0 F1 /\ FI f [] [(2, (pt b21 0)), (3, (vi (bif x0 then 6 else 7)))]) ?_ ?_
 ·refine Cp x0 (fun hb30 => ?_) (fun hb30 => ?_)
  ·refine Rg [0] ?_
   refine Vs 1 ?_
   refine RY ?_
   exact .inl ⟨rfl, F0, hs23, (R6 _), (fJ ⟨rfl, (congrArg (Value.int .i64) (Is hb30 rfl)), trivial⟩)⟩
  ·refine Sc ?_
   exact .inl ⟨rfl, F0, hs23, (R6 _), (fJ ⟨rfl, (congrArg (Value.int .i64) (It hb30 rfl)), trivial⟩)⟩
 ·rintro f w24 ⟨F1, hs25, le26, ⟨_, rfl⟩⟩
  refine Ac ?_
  refine Sq (Rg [0, 1, 2, 3, 4, 5] ?_)
  refine Vs 1 ?_
  obtain ⟨r31, hr32, h33⟩ := bind_some h
  refine Cl' Ci hs25 (Cv N w24 F1 hs25.pers 0 _ hr32) ?_
  rintro _ F2 w35 hs36 le37 ⟨ar31_0_2, nr31_0_2, rfl, hbr31_0_2, hsr31_0_2⟩
  obtain ⟨r39, hr40, h41⟩ := bind_some h33
  refine Cl' Ci hs36 (Cv N w35 F2 hs36.pers 0 _ hr40) ?_
  rintro _ F3 w43 hs44 le45 ⟨ar39_0_2, nr39_0_2, rfl, hbr39_0_2, hsr39_0_2⟩
  refine Bs 33 [(vi r31.Op), (vi r31.Value), (.slice ar31_0_2 r31.Kids.length nr31_0_2), (vi r39.Op), (vi r39.Value), (.slice ar39_0_2 r39.Kids.length nr39_0_2)] hs44 (fun b47 w48 hs49 => ?_)
  have hr51 : Au Ao 33 F3 (some ⟨b47, 0, none⟩) 2 [r31, r39] (some b47, .cells ([(vi r31.Op), (vi r31.Value), (.slice ar31_0_2 r31.Kids.length nr31_0_2), (vi r39.Op), (vi r39.Value), (.slice ar39_0_2 r39.Kids.length nr39_0_2)] : List Value).toArray 33 (0, 0)) := Sr ⟨(A6 ⟨ar31_0_2, nr31_0_2, rfl, hbr31_0_2, (R8 hsr31_0_2 le45)⟩), ⟨(A6 ⟨ar39_0_2, nr39_0_2, rfl, hbr39_0_2, hsr39_0_2⟩), rfl⟩⟩ (by simp)
  refine Vs 1 ?_
  refine St1 #[(vi (bif x0 then 6 else 7)), (vi 0), (.slice (some ⟨b47, 0, none⟩) [r31, r39].length 2)] hs49 (fun w52 hs53 => ?_)
  refine Nt ?_
  refine Rt ?_
  have hb57 := Sn hr51
  obtain ⟨F4, hs54, le55, hs56⟩ := hs53.fr0 hr51
  obtain rfl := Aa h41
  exact ⟨rfl, (.agg #[(vi (bif x0 then 6 else 7)), (vi 0), (.slice (some ⟨b47, 0, none⟩) [r31, r39].length 2)]), Av (l := [.cell 2 33]) (by kernel_rfl) (vs := [(.agg #[(vi (bif x0 then 6 else 7)), (vi 0), (.slice (some ⟨b47, 0, none⟩) [r31, r39].length 2)])]) ⟨b21, 0, rfl, Ai (t := 33) (g := true) (s := 3) (by kernel_rfl) hs54.at0 rfl (by decide), trivial⟩, (.agg #[(vi (bif x0 then 6 else 7)), (vi 0), (.slice (some ⟨b47, 0, none⟩) [r31, r39].length 2)]), F4, rfl, hs54.clear, ⟨(some ⟨b47, 0, none⟩), 2, rfl, hb57, hs56⟩⟩
def A9 (N : Nat) (x0 : Expr) (x1 : Bool) : Option Bool :=
 (((A8 N x1).bind fun r34 => ((CN N x0 r34).bind fun r42 => some r42)).bind fun j29 => some j29)
theorem Bf : An Tryz.prog 187 := fun _ _ => by kernel_rfl
theorem Bh (N : Nat) (w0 : World) (F0 : Mem) (hF : Sz w0 F0) (x0 : Expr) (a0_2 : Sy) (n0_2 : Nat) (hb0_2 : LC x0.Kids.length n0_2) (hs0_2 : SlA Ao F0 a0_2 x0.Kids) (x1 : Bool) (r : Bool) (h : A9 N x0 x1 = some r) :
  Calls Tryz.prog 187 ([(.agg (Ae x0 a0_2 n0_2)), (.bool x1)] : List Value).toArray w0 (AU w0 F0 fun F' v => v = (.bool r)) := by
 have hs0 := R7 hF
 refine Go 9 Tryz.func187 ?_
 refine Sq (Rg [0, 1] ?_)
 refine Bx' 33 (Ae x0 a0_2 n0_2) hs0 (fun b21 w22 hs23 => ?_)
 refine Vs 1 ?_
 refine Nss ?_
 obtain ⟨j29, hj32, h33⟩ := bind_some h
 refine RD 5 5 [(sb b21 (Ae x0 a0_2 n0_2) 33)] [] hs23 (fun f w => ∃ (F1 : Mem), HS w0 F0 w F1 [] /\ R5 F0 F1 /\ FI f [] [(4, (.bool j29))]) (fun wd24 hw25 => ?_) ?_
 ·refine Dl 0 (fun _ hq => (hq.1.2 0 _ _ rfl)) ?_
  refine Dv [1] ?_
  refine D1 2 ?_
  obtain ⟨r34, hr35, h36⟩ := bind_some hj32
  refine DCl A3 hw25 (Ba N wd24 F0 hw25.pers x1 _ hr35) ?_
  rintro _ F2 w38 hs39 le40 ⟨ar34_0_2, nr34_0_2, rfl, hbr34_0_2, hsr34_0_2⟩
  refine D1 3 ?_
  obtain ⟨r42, hr43, h44⟩ := bind_some h36
  refine DCl Cl hs39 (C5 N w38 F2 hs39.pers x0 a0_2 n0_2 hb0_2 (R8 hs0_2 le40) r34 ar34_0_2 nr34_0_2 hbr34_0_2 hsr34_0_2 _ hr43) ?_
  rintro _ F3 w46 hs47 le48 rfl
  refine Dv [4] ?_
  obtain rfl := Aa h44
  exact Sm (by kernel_rfl) ⟨F3, hs47.dr0, (le40.trans le48), fI⟩
 ·rintro f w26 ⟨F1, hs27, le28, ⟨_, rfl⟩⟩
  refine Ac ?_
  refine Rt ?_
  obtain rfl := Aa h33
  exact Re [(.bool j29)] hs27 rfl
def Ev (N : Nat) (x0 : Expr) (x1 : Expr) (x2 : Expr) : Option Expr :=
 (((A9 N x1 (x0.Op == 5)).bind fun r46 => (bif r46 then some true else ((A9 N x2 (x0.Op == 5)).bind fun r57 => some r57))).bind fun j36 => (bif j36 then ((A8 N (x0.Op == 5)).bind fun r68 => some r68) else ((A9 N x1 (!(x0.Op == 5))).bind fun r78 => (bif r78 then some x2 else ((A9 N x2 (!(x0.Op == 5))).bind fun r91 => ((bif r91 then some r91 else ((CN N x1 x2).bind fun r113 => some r113)).bind fun j102 => (bif j102 then some x1 else some x0)))))))
theorem JP : An Tryz.prog 190 := fun _ _ => by kernel_rfl
theorem KG (N : Nat) (w0 : World) (F0 : Mem) (hF : Sz w0 F0) (x0 : Expr) (a0_2 : Sy) (n0_2 : Nat) (hb0_2 : LC x0.Kids.length n0_2) (hs0_2 : SlA Ao F0 a0_2 x0.Kids) (x1 : Expr) (a1_2 : Sy) (n1_2 : Nat) (hb1_2 : LC x1.Kids.length n1_2) (hs1_2 : SlA Ao F0 a1_2 x1.Kids) (x2 : Expr) (a2_2 : Sy) (n2_2 : Nat) (hb2_2 : LC x2.Kids.length n2_2) (hs2_2 : SlA Ao F0 a2_2 x2.Kids) (r : Expr) (h : Ev N x0 x1 x2 = some r) :
  Calls Tryz.prog 190 ([(.agg (Ae x0 a0_2 n0_2)), (.agg (Ae x1 a1_2 n1_2)), (.agg (Ae x2 a2_2 n2_2))] : List Value).toArray w0 (AU w0 F0 fun F' v => ∃ (aq0_2 : Sy) (nq0_2 : Nat), v = (.agg (Ae r aq0_2 nq0_2)) /\ LC r.Kids.length nq0_2 /\ SlA Ao F' aq0_2 r.Kids) := by
 have hs0 := R7 hF
 refine Go 38 Tryz.func190 ?_
 refine Sq (Rg [0, 1, 2, 3] ?_)
 refine Bx' 33 (Ae x0 a0_2 n0_2) hs0 (fun b21 w22 hs23 => ?_)
 refine Bx' 33 (Ae x1 a1_2 n1_2) hs23 (fun b24 w25 hs26 => ?_)
 refine Bx' 33 (Ae x2 a2_2 n2_2) hs26 (fun b27 w28 hs29 => ?_)
 refine Al' 33 #[(vi 0), (vi 0), (.slice none ([] : List Expr).length 0)] hs29 (fun b30 w31 hs32 => ?_)
 refine Nss (Rg [0, 1, 2, 3] ?_)
 refine Vs 1 ?_
 refine Ld hs32.at3 ?_
 refine Vs 2 ?_
 refine Nss ?_
 refine Bk ?_
 refine Sq (Rg [0, 1, 2, 3, 4, 5, 6, 7, 8] ?_)
 obtain ⟨j36, hj44, h45⟩ := bind_some h
 refine Sb (fun f w => ∃ (F1 : Mem), HS w0 F0 w F1 [(sb b30 #[(vi 0), (vi 0), (.slice none ([] : List Expr).length 0)] 33), (sb b27 (Ae x2 a2_2 n2_2) 33), (sb b24 (Ae x1 a1_2 n1_2) 33), (sb b21 (Ae x0 a0_2 n0_2) 33)] /\ R5 F0 F1 /\ FI f [] [(3, (pt b21 0)), (4, (pt b24 0)), (5, (pt b27 0)), (6, (pt b30 0)), (7, (.bool (x0.Op == 5))), (11, (.bool j36))]) ?_ ?_
 ·refine Ld hs32.at2 ?_
  refine Vs 1 ?_
  obtain ⟨r46, hr47, h48⟩ := bind_some hj44
  refine Cl' Bf hs32 (Bh N w31 F0 hs32.pers x1 a1_2 n1_2 hb1_2 hs1_2 ((x0.Op == 5)) _ hr47) ?_
  rintro _ F2 w50 hs51 le52 rfl
  refine Vs 1 ?_
  refine Sp h48 (fun hb54 h55 => ?_) (fun hb54 h56 => ?_)
  ·refine Ss hb54 3 ?_
   refine Pk1 hb54 ?_
   refine Vs 1 ?_
   obtain rfl := Aa h55
   exact RY ⟨rfl, F2, hs51, le52, fI⟩
  ·refine Lg hb54 hs51.at1 ?_
   refine Vgs hb54 1 ?_
   obtain ⟨r57, hr58, h59⟩ := bind_some h56
   refine Cg hb54 Bf hs51 (Bh N w50 F2 hs51.pers x2 a2_2 n2_2 hb2_2 (R8 hs2_2 le52) ((x0.Op == 5)) _ hr58) ?_
   rintro _ F3 w61 hs62 le63 rfl
   refine Pk0 hb54 ?_
   refine Vs 1 ?_
   obtain rfl := Aa h59
   exact RY ⟨rfl, F3, hs62, (le52.trans le63), fI⟩
 ·rintro f w33 ⟨F1, hs34, le35, ⟨_, rfl⟩⟩
  refine Ac ?_
  refine Cd h45 (fun hb65 h66 => ?_) (fun hb65 h67 => ?_)
  ·refine Sq (Rg [0, 1, 2] ?_)
   refine Vs 1 ?_
   obtain ⟨r68, hr69, h70⟩ := bind_some h66
   refine Cl' A3 hs34 (Ba N w33 F1 hs34.pers ((x0.Op == 5)) _ hr69) ?_
   rintro _ F4 w72 hs73 le74 ⟨ar68_0_2, nr68_0_2, rfl, hbr68_0_2, hsr68_0_2⟩
   refine St0 (Ae r68 ar68_0_2 nr68_0_2) hs73 (fun w76 hs77 => ?_)
   refine Nt ?_
   refine Rt ?_
   refine Ah ?_
   refine Af ?_
   obtain rfl := Aa h70
   exact ⟨rfl, (.agg (Ae r68 ar68_0_2 nr68_0_2)), Av (l := [.cell 6 33]) (by kernel_rfl) (vs := [(.agg (Ae r68 ar68_0_2 nr68_0_2))]) ⟨b30, 0, rfl, Ai (t := 33) (g := true) (s := 3) (by kernel_rfl) hs77.at0 rfl (by decide), trivial⟩, (.agg (Ae r68 ar68_0_2 nr68_0_2)), F4, rfl, hs77.clear, ⟨ar68_0_2, nr68_0_2, rfl, hbr68_0_2, hsr68_0_2⟩⟩
  ·refine Sq (Rg [0, 1, 2, 3, 4] ?_)
   refine Ld hs34.at2 ?_
   refine Vs 2 ?_
   obtain ⟨r78, hr79, h80⟩ := bind_some h67
   refine Cl' Bf hs34 (Bh N w33 F1 hs34.pers x1 a1_2 n1_2 hb1_2 (R8 hs1_2 le35) ((!(x0.Op == 5))) _ hr79) ?_
   rintro _ F5 w82 hs83 le84 rfl
   refine Vs 1 ?_
   refine Nt ?_
   refine Cd h80 (fun hb86 h87 => ?_) (fun hb86 h88 => ?_)
   ·refine Sq (Rg [0, 1] ?_)
    refine Ld hs83.at1 ?_
    refine St0 (Ae x2 a2_2 n2_2) hs83 (fun w89 hs90 => ?_)
    refine Nt ?_
    refine Rt ?_
    refine Ah ?_
    refine Af ?_
    obtain rfl := Aa h87
    exact ⟨rfl, (.agg (Ae x2 a2_2 n2_2)), Av (l := [.cell 6 33]) (by kernel_rfl) (vs := [(.agg (Ae x2 a2_2 n2_2))]) ⟨b30, 0, rfl, Ai (t := 33) (g := true) (s := 3) (by kernel_rfl) hs90.at0 rfl (by decide), trivial⟩, (.agg (Ae x2 a2_2 n2_2)), F5, rfl, hs90.clear, ⟨a2_2, n2_2, rfl, hb2_2, (R8 hs2_2 (le35.trans le84))⟩⟩
   ·refine Sq ?_
    refine Sq (Rg [0, 1, 2, 3, 4] ?_)
    refine Ld hs83.at1 ?_
    refine Vs 2 ?_
    obtain ⟨r91, hr92, h93⟩ := bind_some h88
    refine Cl' Bf hs83 (Bh N w82 F5 hs83.pers x2 a2_2 n2_2 hb2_2 (R8 hs2_2 (le35.trans le84)) ((!(x0.Op == 5))) _ hr92) ?_
    rintro _ F6 w95 hs96 le97 rfl
    refine Vs 1 ?_
    refine Nt ?_
    obtain ⟨j102, hj108, h109⟩ := bind_some h93
    refine Se (fun f w => ∃ (F7 : Mem), HS w0 F0 w F7 [(sb b30 #[(vi 0), (vi 0), (.slice none ([] : List Expr).length 0)] 33), (sb b24 (Ae x1 a1_2 n1_2) 33), (sb b21 (Ae x0 a0_2 n0_2) 33)] /\ R5 F6 F7 /\ FI f [] [(3, (pt b21 0)), (4, (pt b24 0)), (6, (pt b30 0)), (28, (.bool j102))]) ?_ ?_
    ·refine Cd hj108 (fun hb110 h111 => ?_) (fun hb110 h112 => ?_)
     ·refine Sc ?_
      obtain rfl := Aa h111
      exact .inl ⟨rfl, F6, hs96.dr1, (R6 _), fI⟩
     ·refine Rg [0, 1, 2, 3] ?_
      refine Ld hs96.at2 ?_
      refine Ld hs96.at1 ?_
      obtain ⟨r113, hr114, h115⟩ := bind_some h112
      refine Cl' Cl hs96 (C5 N w95 F6 hs96.pers x1 a1_2 n1_2 hb1_2 (R8 hs1_2 ((le35.trans le84).trans le97)) x2 a2_2 n2_2 hb2_2 (R8 hs2_2 ((le35.trans le84).trans le97)) _ hr114) ?_
      rintro _ F8 w117 hs118 le119 rfl
      refine Vs 1 ?_
      refine RY ?_
      obtain rfl := Aa h115
      exact .inl ⟨rfl, F8, hs118.dr1, le119, fI⟩
    ·rintro f w99 ⟨F7, hs100, le101, ⟨_, rfl⟩⟩
     refine Ac ?_
     refine Cd h109 (fun hb121 h122 => ?_) (fun hb121 h123 => ?_)
     ·refine Sq (Rg [0, 1] ?_)
      refine Ld hs100.at1 ?_
      refine St0 (Ae x1 a1_2 n1_2) hs100 (fun w124 hs125 => ?_)
      refine Nt ?_
      refine Rt ?_
      refine Ah ?_
      refine Af ?_
      obtain rfl := Aa h122
      exact ⟨rfl, (.agg (Ae x1 a1_2 n1_2)), Av (l := [.cell 6 33]) (by kernel_rfl) (vs := [(.agg (Ae x1 a1_2 n1_2))]) ⟨b30, 0, rfl, Ai (t := 33) (g := true) (s := 3) (by kernel_rfl) hs125.at0 rfl (by decide), trivial⟩, (.agg (Ae x1 a1_2 n1_2)), F7, rfl, hs125.clear, ⟨a1_2, n1_2, rfl, hb1_2, (R8 hs1_2 (((le35.trans le84).trans le97).trans le101))⟩⟩
     ·refine Sc ?_
      refine Ap ?_
      refine Ac ?_
      refine Sq (Rg [0, 1] ?_)
      refine Ld hs100.at2 ?_
      refine St0 (Ae x0 a0_2 n0_2) hs100 (fun w126 hs127 => ?_)
      refine Nt ?_
      refine Rt ?_
      obtain rfl := Aa h123
      exact ⟨rfl, (.agg (Ae x0 a0_2 n0_2)), Av (l := [.cell 6 33]) (by kernel_rfl) (vs := [(.agg (Ae x0 a0_2 n0_2))]) ⟨b30, 0, rfl, Ai (t := 33) (g := true) (s := 3) (by kernel_rfl) hs127.at0 rfl (by decide), trivial⟩, (.agg (Ae x0 a0_2 n0_2)), F7, rfl, hs127.clear, ⟨a0_2, n0_2, rfl, hb0_2, (R8 hs0_2 (((le35.trans le84).trans le97).trans le101))⟩⟩
def Bb (N : Nat) (x0 : Expr) (x1 : Int) : Option Bool :=
 some ((x0.Op == 1) && (x0.Value == x1))
theorem Bg : An Tryz.prog 215 := fun _ _ => by kernel_rfl
theorem Bi (N : Nat) (w0 : World) (F0 : Mem) (hF : Sz w0 F0) (x0 : Expr) (a0_2 : Sy) (n0_2 : Nat) (hb0_2 : LC x0.Kids.length n0_2) (hs0_2 : SlA Ao F0 a0_2 x0.Kids) (x1 : Int) (r : Bool) (h : Bb N x0 x1 = some r) :
  Calls Tryz.prog 215 ([(.agg (Ae x0 a0_2 n0_2)), (vi x1)] : List Value).toArray w0 (AU w0 F0 fun F' v => v = (.bool r)) := by
 have hs0 := R7 hF
 refine Go 14 Tryz.func215 ?_
 refine Sq (Rg [0, 1] ?_)
 refine Bx' 33 (Ae x0 a0_2 n0_2) hs0 (fun b21 w22 hs23 => ?_)
 refine Vs 1 ?_
 refine Nss (Rg [0, 1, 2, 3, 4, 5, 6, 7, 8, 9] ?_)
 refine Sb (fun f w => ∃ (F1 : Mem), HS w0 F0 w F1 [] /\ R5 F0 F1 /\ FI f [] [(4, (.bool ((x0.Op == 1) && (x0.Value == x1))))]) ?_ ?_
 ·refine Vs 1 ?_
  refine Ld hs23.at0 ?_
  refine Vs 2 ?_
  refine Sa (x0.Op == 1) (fun hb29 => ?_) (fun hb29 => ?_)
  ·refine Vgs hb29 1 ?_
   refine Lg hb29 hs23.at0 ?_
   refine Vgs hb29 2 ?_
   refine Pk1 hb29 ?_
   refine Vs 1 ?_
   exact RY ⟨rfl, F0, hs23.dr0, (R6 _), (fJ ⟨(congrArg Value.bool (Dc hb29 rfl)), trivial⟩)⟩
  ·refine Ss hb29 4 ?_
   refine Pk0 hb29 ?_
   refine Vs 1 ?_
   exact RY ⟨rfl, F0, hs23.dr0, (R6 _), (fJ ⟨(congrArg Value.bool (E8 hb29 rfl)), trivial⟩)⟩
 ·rintro f w24 ⟨F1, hs25, le26, ⟨_, rfl⟩⟩
  refine Ac ?_
  refine Rt ?_
  obtain rfl := Aa h
  exact Re [(.bool ((x0.Op == 1) && (x0.Value == x1)))] hs25 rfl
def CO (N : Nat) (x0 : Expr) (x1 : Expr) (x2 : Expr) : Option Expr :=
 (bif (x0.Op == 8) then ((Bb N x1 0).bind fun r36 => (bif r36 then some x2 else ((Bb N x2 0).bind fun r49 => (bif r49 then some x1 else some x0)))) else (bif (x0.Op == 9) then ((Bb N x2 0).bind fun r67 => (bif r67 then some x1 else ((CN N x1 x2).bind fun r80 => (bif r80 then ((B4 N 0).bind fun r91 => some r91) else some x0)))) else (bif (x0.Op == 10) then ((Bb N x1 1).bind fun r106 => (bif r106 then some x2 else ((Bb N x2 1).bind fun r119 => (bif r119 then some x1 else (((Bb N x1 0).bind fun r142 => (bif r142 then some true else ((Bb N x2 0).bind fun r153 => some r153))).bind fun j135 => (bif j135 then ((B4 N 0).bind fun r164 => some r164) else some x0)))))) else some x0)))
theorem Ig : An Tryz.prog 192 := fun _ _ => by kernel_rfl
theorem Jg (N : Nat) (w0 : World) (F0 : Mem) (hF : Sz w0 F0) (x0 : Expr) (a0_2 : Sy) (n0_2 : Nat) (hb0_2 : LC x0.Kids.length n0_2) (hs0_2 : SlA Ao F0 a0_2 x0.Kids) (x1 : Expr) (a1_2 : Sy) (n1_2 : Nat) (hb1_2 : LC x1.Kids.length n1_2) (hs1_2 : SlA Ao F0 a1_2 x1.Kids) (x2 : Expr) (a2_2 : Sy) (n2_2 : Nat) (hb2_2 : LC x2.Kids.length n2_2) (hs2_2 : SlA Ao F0 a2_2 x2.Kids) (r : Expr) (h : CO N x0 x1 x2 = some r) :
  Calls Tryz.prog 192 ([(.agg (Ae x0 a0_2 n0_2)), (.agg (Ae x1 a1_2 n1_2)), (.agg (Ae x2 a2_2 n2_2))] : List Value).toArray w0 (AU w0 F0 fun F' v => ∃ (aq0_2 : Sy) (nq0_2 : Nat), v = (.agg (Ae r aq0_2 nq0_2)) /\ LC r.Kids.length nq0_2 /\ SlA Ao F' aq0_2 r.Kids) := by
 have hs0 := R7 hF
 refine Go 49 Tryz.func192 ?_
 refine Sq (Rg [0, 1, 2, 3] ?_)
 refine Bx' 33 (Ae x0 a0_2 n0_2) hs0 (fun b21 w22 hs23 => ?_)
 refine Bx' 33 (Ae x1 a1_2 n1_2) hs23 (fun b24 w25 hs26 => ?_)
 refine Bx' 33 (Ae x2 a2_2 n2_2) hs26 (fun b27 w28 hs29 => ?_)
 refine Al' 33 #[(vi 0), (vi 0), (.slice none ([] : List Expr).length 0)] hs29 (fun b30 w31 hs32 => ?_)
 refine Nss ?_
 refine Sq (Rg [0, 1] ?_)
 refine Vs 1 ?_
 refine Ld hs32.at3 ?_
 refine Nt ?_
 refine Bk ?_
 refine Sq (Rg [0, 1] ?_)
 refine Vs 2 ?_
 refine Nt ?_
 refine Cd h (fun hb33 h34 => ?_) (fun hb33 h35 => ?_)
 ·refine Bk ?_
  refine Sq (Rg [0, 1, 2] ?_)
  refine Ld hs32.at2 ?_
  obtain ⟨r36, hr37, h38⟩ := bind_some h34
  refine Cl' Bg hs32 (Bi N w31 F0 hs32.pers x1 a1_2 n1_2 hb1_2 hs1_2 0 _ hr37) ?_
  rintro _ F1 w40 hs41 le42 rfl
  refine Vs 1 ?_
  refine Nt ?_
  refine Cd h38 (fun hb44 h45 => ?_) (fun hb44 h46 => ?_)
  ·refine Sq (Rg [0, 1] ?_)
   refine Ld hs41.at1 ?_
   refine St0 (Ae x2 a2_2 n2_2) hs41 (fun w47 hs48 => ?_)
   refine Nt ?_
   refine Rt ?_
   refine Ah ?_
   refine Ah ?_
   refine Af ?_
   obtain rfl := Aa h45
   exact ⟨rfl, (.agg (Ae x2 a2_2 n2_2)), Av (l := [.cell 6 33]) (by kernel_rfl) (vs := [(.agg (Ae x2 a2_2 n2_2))]) ⟨b30, 0, rfl, Ai (t := 33) (g := true) (s := 3) (by kernel_rfl) hs48.at0 rfl (by decide), trivial⟩, (.agg (Ae x2 a2_2 n2_2)), F1, rfl, hs48.clear, ⟨a2_2, n2_2, rfl, hb2_2, (R8 hs2_2 le42)⟩⟩
  ·refine Sq (Rg [0, 1, 2] ?_)
   refine Ld hs41.at1 ?_
   obtain ⟨r49, hr50, h51⟩ := bind_some h46
   refine Cl' Bg hs41 (Bi N w40 F1 hs41.pers x2 a2_2 n2_2 hb2_2 (R8 hs2_2 le42) 0 _ hr50) ?_
   rintro _ F2 w53 hs54 le55 rfl
   refine Vs 1 ?_
   refine Nt ?_
   refine Cd h51 (fun hb57 h58 => ?_) (fun hb57 h59 => ?_)
   ·refine Sq (Rg [0, 1] ?_)
    refine Ld hs54.at2 ?_
    refine St0 (Ae x1 a1_2 n1_2) hs54 (fun w60 hs61 => ?_)
    refine Nt ?_
    refine Rt ?_
    refine Ah ?_
    refine Ah ?_
    refine Af ?_
    obtain rfl := Aa h58
    exact ⟨rfl, (.agg (Ae x1 a1_2 n1_2)), Av (l := [.cell 6 33]) (by kernel_rfl) (vs := [(.agg (Ae x1 a1_2 n1_2))]) ⟨b30, 0, rfl, Ai (t := 33) (g := true) (s := 3) (by kernel_rfl) hs61.at0 rfl (by decide), trivial⟩, (.agg (Ae x1 a1_2 n1_2)), F2, rfl, hs61.clear, ⟨a1_2, n1_2, rfl, hb1_2, (R8 hs1_2 (le42.trans le55))⟩⟩
   ·refine Sc ?_
    refine Ap ?_
    refine Ap ?_
    refine Ac ?_
    refine Sq (Rg [0, 1] ?_)
    refine Ld hs54.at3 ?_
    refine St0 (Ae x0 a0_2 n0_2) hs54 (fun w62 hs63 => ?_)
    refine Nt ?_
    refine Rt ?_
    obtain rfl := Aa h59
    exact ⟨rfl, (.agg (Ae x0 a0_2 n0_2)), Av (l := [.cell 6 33]) (by kernel_rfl) (vs := [(.agg (Ae x0 a0_2 n0_2))]) ⟨b30, 0, rfl, Ai (t := 33) (g := true) (s := 3) (by kernel_rfl) hs63.at0 rfl (by decide), trivial⟩, (.agg (Ae x0 a0_2 n0_2)), F2, rfl, hs63.clear, ⟨a0_2, n0_2, rfl, hb0_2, (R8 hs0_2 (le42.trans le55))⟩⟩
 ·refine Sq (Rg [0, 1] ?_)
  refine Vs 2 ?_
  refine Nt ?_
  refine Cd h35 (fun hb64 h65 => ?_) (fun hb64 h66 => ?_)
  ·refine Bk ?_
   refine Sq (Rg [0, 1, 2] ?_)
   refine Ld hs32.at1 ?_
   obtain ⟨r67, hr68, h69⟩ := bind_some h65
   refine Cl' Bg hs32 (Bi N w31 F0 hs32.pers x2 a2_2 n2_2 hb2_2 hs2_2 0 _ hr68) ?_
   rintro _ F3 w71 hs72 le73 rfl
   refine Vs 1 ?_
   refine Nt ?_
   refine Cd h69 (fun hb75 h76 => ?_) (fun hb75 h77 => ?_)
   ·refine Sq (Rg [0, 1] ?_)
    refine Ld hs72.at2 ?_
    refine St0 (Ae x1 a1_2 n1_2) hs72 (fun w78 hs79 => ?_)
    refine Nt ?_
    refine Rt ?_
    refine Ah ?_
    refine Ah ?_
    refine Af ?_
    obtain rfl := Aa h76
    exact ⟨rfl, (.agg (Ae x1 a1_2 n1_2)), Av (l := [.cell 6 33]) (by kernel_rfl) (vs := [(.agg (Ae x1 a1_2 n1_2))]) ⟨b30, 0, rfl, Ai (t := 33) (g := true) (s := 3) (by kernel_rfl) hs79.at0 rfl (by decide), trivial⟩, (.agg (Ae x1 a1_2 n1_2)), F3, rfl, hs79.clear, ⟨a1_2, n1_2, rfl, hb1_2, (R8 hs1_2 le73)⟩⟩
   ·refine Sq (Rg [0, 1, 2, 3] ?_)
    refine Ld hs72.at2 ?_
    refine Ld hs72.at1 ?_
    obtain ⟨r80, hr81, h82⟩ := bind_some h77
    refine Cl' Cl hs72 (C5 N w71 F3 hs72.pers x1 a1_2 n1_2 hb1_2 (R8 hs1_2 le73) x2 a2_2 n2_2 hb2_2 (R8 hs2_2 le73) _ hr81) ?_
    rintro _ F4 w84 hs85 le86 rfl
    refine Vs 1 ?_
    refine Nt ?_
    refine Cd h82 (fun hb88 h89 => ?_) (fun hb88 h90 => ?_)
    ·refine Sq (Rg [0, 1] ?_)
     obtain ⟨r91, hr92, h93⟩ := bind_some h89
     refine Cl' Ci hs85 (Cv N w84 F4 hs85.pers 0 _ hr92) ?_
     rintro _ F5 w95 hs96 le97 ⟨ar91_0_2, nr91_0_2, rfl, hbr91_0_2, hsr91_0_2⟩
     refine St0 (Ae r91 ar91_0_2 nr91_0_2) hs96 (fun w99 hs100 => ?_)
     refine Nt ?_
     refine Rt ?_
     refine Ah ?_
     refine Ah ?_
     refine Af ?_
     obtain rfl := Aa h93
     exact ⟨rfl, (.agg (Ae r91 ar91_0_2 nr91_0_2)), Av (l := [.cell 6 33]) (by kernel_rfl) (vs := [(.agg (Ae r91 ar91_0_2 nr91_0_2))]) ⟨b30, 0, rfl, Ai (t := 33) (g := true) (s := 3) (by kernel_rfl) hs100.at0 rfl (by decide), trivial⟩, (.agg (Ae r91 ar91_0_2 nr91_0_2)), F5, rfl, hs100.clear, ⟨ar91_0_2, nr91_0_2, rfl, hbr91_0_2, hsr91_0_2⟩⟩
    ·refine Sc ?_
     refine Ap ?_
     refine Ap ?_
     refine Ac ?_
     refine Sq (Rg [0, 1] ?_)
     refine Ld hs85.at3 ?_
     refine St0 (Ae x0 a0_2 n0_2) hs85 (fun w101 hs102 => ?_)
     refine Nt ?_
     refine Rt ?_
     obtain rfl := Aa h90
     exact ⟨rfl, (.agg (Ae x0 a0_2 n0_2)), Av (l := [.cell 6 33]) (by kernel_rfl) (vs := [(.agg (Ae x0 a0_2 n0_2))]) ⟨b30, 0, rfl, Ai (t := 33) (g := true) (s := 3) (by kernel_rfl) hs102.at0 rfl (by decide), trivial⟩, (.agg (Ae x0 a0_2 n0_2)), F4, rfl, hs102.clear, ⟨a0_2, n0_2, rfl, hb0_2, (R8 hs0_2 (le73.trans le86))⟩⟩
  ·refine Sq (Rg [0, 1] ?_)
   refine Vs 2 ?_
   refine Nt ?_
   refine Cd h66 (fun hb103 h104 => ?_) (fun hb103 h105 => ?_)
   ·refine Bk ?_
    refine Sq (Rg [0, 1, 2] ?_)
    refine Ld hs32.at2 ?_
    obtain ⟨r106, hr107, h108⟩ := bind_some h104
    refine Cl' Bg hs32 (Bi N w31 F0 hs32.pers x1 a1_2 n1_2 hb1_2 hs1_2 1 _ hr107) ?_
    rintro _ F6 w110 hs111 le112 rfl
    refine Vs 1 ?_
    refine Nt ?_
    refine Cd h108 (fun hb114 h115 => ?_) (fun hb114 h116 => ?_)
    ·refine Sq (Rg [0, 1] ?_)
     refine Ld hs111.at1 ?_
     refine St0 (Ae x2 a2_2 n2_2) hs111 (fun w117 hs118 => ?_)
     refine Nt ?_
     refine Rt ?_
     refine Ah ?_
     refine Ah ?_
     refine Af ?_
     obtain rfl := Aa h115
     exact ⟨rfl, (.agg (Ae x2 a2_2 n2_2)), Av (l := [.cell 6 33]) (by kernel_rfl) (vs := [(.agg (Ae x2 a2_2 n2_2))]) ⟨b30, 0, rfl, Ai (t := 33) (g := true) (s := 3) (by kernel_rfl) hs118.at0 rfl (by decide), trivial⟩, (.agg (Ae x2 a2_2 n2_2)), F6, rfl, hs118.clear, ⟨a2_2, n2_2, rfl, hb2_2, (R8 hs2_2 le112)⟩⟩
    ·refine Sq (Rg [0, 1, 2] ?_)
     refine Ld hs111.at1 ?_
     obtain ⟨r119, hr120, h121⟩ := bind_some h116
     refine Cl' Bg hs111 (Bi N w110 F6 hs111.pers x2 a2_2 n2_2 hb2_2 (R8 hs2_2 le112) 1 _ hr120) ?_
     rintro _ F7 w123 hs124 le125 rfl
     refine Vs 1 ?_
     refine Nt ?_
     refine Cd h121 (fun hb127 h128 => ?_) (fun hb127 h129 => ?_)
     ·refine Sq (Rg [0, 1] ?_)
      refine Ld hs124.at2 ?_
      refine St0 (Ae x1 a1_2 n1_2) hs124 (fun w130 hs131 => ?_)
      refine Nt ?_
      refine Rt ?_
      refine Ah ?_
      refine Ah ?_
      refine Af ?_
      obtain rfl := Aa h128
      exact ⟨rfl, (.agg (Ae x1 a1_2 n1_2)), Av (l := [.cell 6 33]) (by kernel_rfl) (vs := [(.agg (Ae x1 a1_2 n1_2))]) ⟨b30, 0, rfl, Ai (t := 33) (g := true) (s := 3) (by kernel_rfl) hs131.at0 rfl (by decide), trivial⟩, (.agg (Ae x1 a1_2 n1_2)), F7, rfl, hs131.clear, ⟨a1_2, n1_2, rfl, hb1_2, (R8 hs1_2 (le112.trans le125))⟩⟩
     ·refine Sq (Rg [0, 1, 2, 3, 4, 5, 6] ?_)
      obtain ⟨j135, hj140, h141⟩ := bind_some h129
      refine Sb (fun f w => ∃ (F8 : Mem), HS w0 F0 w F8 [(sb b30 #[(vi 0), (vi 0), (.slice none ([] : List Expr).length 0)] 33), (sb b21 (Ae x0 a0_2 n0_2) 33)] /\ R5 F7 F8 /\ FI f [] [(3, (pt b21 0)), (6, (pt b30 0)), (40, (.bool j135))]) ?_ ?_
      ·refine Ld hs124.at2 ?_
       obtain ⟨r142, hr143, h144⟩ := bind_some hj140
       refine Cl' Bg hs124 (Bi N w123 F7 hs124.pers x1 a1_2 n1_2 hb1_2 (R8 hs1_2 (le112.trans le125)) 0 _ hr143) ?_
       rintro _ F9 w146 hs147 le148 rfl
       refine Vs 1 ?_
       refine Sp h144 (fun hb150 h151 => ?_) (fun hb150 h152 => ?_)
       ·refine Ss hb150 2 ?_
        refine Pk1 hb150 ?_
        refine Vs 1 ?_
        obtain rfl := Aa h151
        exact RY ⟨rfl, F9, hs147.dr1.dr1, le148, fI⟩
       ·refine Lg hb150 hs147.at1 ?_
        obtain ⟨r153, hr154, h155⟩ := bind_some h152
        refine Cg hb150 Bg hs147 (Bi N w146 F9 hs147.pers x2 a2_2 n2_2 hb2_2 (R8 hs2_2 ((le112.trans le125).trans le148)) 0 _ hr154) ?_
        rintro _ F10 w157 hs158 le159 rfl
        refine Pk0 hb150 ?_
        refine Vs 1 ?_
        obtain rfl := Aa h155
        exact RY ⟨rfl, F10, hs158.dr1.dr1, (le148.trans le159), fI⟩
      ·rintro f w132 ⟨F8, hs133, le134, ⟨_, rfl⟩⟩
       refine Ac ?_
       refine Cd h141 (fun hb161 h162 => ?_) (fun hb161 h163 => ?_)
       ·refine Sq (Rg [0, 1] ?_)
        obtain ⟨r164, hr165, h166⟩ := bind_some h162
        refine Cl' Ci hs133 (Cv N w132 F8 hs133.pers 0 _ hr165) ?_
        rintro _ F11 w168 hs169 le170 ⟨ar164_0_2, nr164_0_2, rfl, hbr164_0_2, hsr164_0_2⟩
        refine St0 (Ae r164 ar164_0_2 nr164_0_2) hs169 (fun w172 hs173 => ?_)
        refine Nt ?_
        refine Rt ?_
        refine Ah ?_
        refine Ah ?_
        refine Af ?_
        obtain rfl := Aa h166
        exact ⟨rfl, (.agg (Ae r164 ar164_0_2 nr164_0_2)), Av (l := [.cell 6 33]) (by kernel_rfl) (vs := [(.agg (Ae r164 ar164_0_2 nr164_0_2))]) ⟨b30, 0, rfl, Ai (t := 33) (g := true) (s := 3) (by kernel_rfl) hs173.at0 rfl (by decide), trivial⟩, (.agg (Ae r164 ar164_0_2 nr164_0_2)), F11, rfl, hs173.clear, ⟨ar164_0_2, nr164_0_2, rfl, hbr164_0_2, hsr164_0_2⟩⟩
       ·refine Sc ?_
        refine Ap ?_
        refine Ap ?_
        refine Ac ?_
        refine Sq (Rg [0, 1] ?_)
        refine Ld hs133.at1 ?_
        refine St0 (Ae x0 a0_2 n0_2) hs133 (fun w174 hs175 => ?_)
        refine Nt ?_
        refine Rt ?_
        obtain rfl := Aa h163
        exact ⟨rfl, (.agg (Ae x0 a0_2 n0_2)), Av (l := [.cell 6 33]) (by kernel_rfl) (vs := [(.agg (Ae x0 a0_2 n0_2))]) ⟨b30, 0, rfl, Ai (t := 33) (g := true) (s := 3) (by kernel_rfl) hs175.at0 rfl (by decide), trivial⟩, (.agg (Ae x0 a0_2 n0_2)), F8, rfl, hs175.clear, ⟨a0_2, n0_2, rfl, hb0_2, (R8 hs0_2 ((le112.trans le125).trans le134))⟩⟩
   ·refine Sc ?_
    refine Ap ?_
    refine Ac ?_
    refine Sq (Rg [0, 1] ?_)
    refine Ld hs32.at3 ?_
    refine St0 (Ae x0 a0_2 n0_2) hs32 (fun w176 hs177 => ?_)
    refine Nt ?_
    refine Rt ?_
    obtain rfl := Aa h105
    exact ⟨rfl, (.agg (Ae x0 a0_2 n0_2)), Av (l := [.cell 6 33]) (by kernel_rfl) (vs := [(.agg (Ae x0 a0_2 n0_2))]) ⟨b30, 0, rfl, Ai (t := 33) (g := true) (s := 3) (by kernel_rfl) hs177.at0 rfl (by decide), trivial⟩, (.agg (Ae x0 a0_2 n0_2)), F0, rfl, hs177.clear, ⟨a0_2, n0_2, rfl, hb0_2, hs0_2⟩⟩
def AD (N : Nat) (x0 : Expr) : Option Expr :=
 (bif ((x0.Kids.length : Int) == 0) then some x0 else ((idx x0.Kids 0).bind fun x32 => (bif (x0.Op == 3) then ((A9 N x32 true).bind fun r54 => ((bif r54 then some r54 else ((A9 N x32 false).bind fun r76 => some r76)).bind fun j65 => (bif j65 then ((A9 N x32 false).bind fun r87 => ((A8 N r87).bind fun r95 => some r95)) else (bif (x32.Op == 3) then ((idx x32.Kids 0).bind fun x108 => some x108) else some x0)))) else ((idx x0.Kids 1).bind fun x126 => (bif (bif (x0.Op == 6) then (x0.Op == 6) else (x0.Op == 7)) then ((bif ((x32.Op == 1) && (x126.Op == 1)) then some true else ((CN N x32 x126).bind fun r178 => some r178)).bind fun j165 => (bif j165 then ((bif (x0.Op == 6) then ((CN N x32 x126).bind fun r200 => (bif r200 then ((A8 N true).bind fun r211 => some (r211.Op, r211.Value, r211.Kids)) else (bif (x0.Op == 7) then (bif ((x32.Op == 1) && (x126.Op == 1)) then ((A8 N (decide (x32.Value < x126.Value))).bind fun r227 => some (r227.Op, r227.Value, r227.Kids)) else ((A8 N false).bind fun r237 => some (r237.Op, r237.Value, r237.Kids))) else ((A8 N false).bind fun r247 => some (r247.Op, r247.Value, r247.Kids))))) else (bif (x0.Op == 7) then (bif ((x32.Op == 1) && (x126.Op == 1)) then ((A8 N (decide (x32.Value < x126.Value))).bind fun r263 => some (r263.Op, r263.Value, r263.Kids)) else ((A8 N false).bind fun r273 => some (r273.Op, r273.Value, r273.Kids))) else ((A8 N false).bind fun r283 => some (r283.Op, r283.Value, r283.Kids)))).bind fun j192 => some ({ Op := j192.1, Value := j192.2.1, Kids := j192.2.2 } : Expr)) else some x0)) else (bif (bif (x0.Op == 4) then (x0.Op == 4) else (x0.Op == 5)) then ((Ev N x0 x32 x126).bind fun r310 => some r310) else (bif (bif (x0.Op == 8) then (x0.Op == 8) else (bif (x0.Op == 9) then (x0.Op == 9) else (x0.Op == 10))) then (((mk0 0 14).bind fun r362 => ((CL N x0 r362).bind fun r376 => some r376)).bind fun j352 => (bif (((x32.Op == 1) && (x126.Op == 1)) && (decide (j352 >= 0))) then ((B4 N j352).bind fun r398 => some r398) else ((CO N x0 x32 x126).bind fun r408 => some r408))) else (bif (x0.Op == 11) then ((A9 N x32 true).bind fun r421 => (bif r421 then some x126 else ((A9 N x32 false).bind fun r434 => (bif r434 then ((idx x0.Kids 2).bind fun x445 => some x445) else (((idx x0.Kids 2).bind fun x466 => ((CN N x126 x466).bind fun r472 => some r472)).bind fun j458 => (bif j458 then some x126 else some x0)))))) else some x0))))))))
theorem I9 : An Tryz.prog 148 := fun _ _ => by kernel_rfl
theorem JU (N : Nat) (w0 : World) (F0 : Mem) (hF : Sz w0 F0) (x0 : Expr) (a0_2 : Sy) (n0_2 : Nat) (hb0_2 : LC x0.Kids.length n0_2) (hs0_2 : SlA Ao F0 a0_2 x0.Kids) (r : Expr) (h : AD N x0 = some r) :
  Calls Tryz.prog 148 ([(.agg (Ae x0 a0_2 n0_2))] : List Value).toArray w0 (AU w0 F0 fun F' v => ∃ (aq0_2 : Sy) (nq0_2 : Nat), v = (.agg (Ae r aq0_2 nq0_2)) /\ LC r.Kids.length nq0_2 /\ SlA Ao F' aq0_2 r.Kids) := by
 have hs0 := R7 hF
 refine Go 130 Tryz.func148 ?_
 refine Sq (Rg [0, 1] ?_)
 refine Bx' 33 (Ae x0 a0_2 n0_2) hs0 (fun b21 w22 hs23 => ?_)
 refine Al' 33 #[(vi 0), (vi 0), (.slice none ([] : List Expr).length 0)] hs23 (fun b24 w25 hs26 => ?_)
 refine Nss ?_
 refine Sq (Rg [0, 1, 2, 3] ?_)
 refine Vs 1 ?_
 refine Ld hs26.at1 ?_
 refine Vs 2 ?_
 refine Nt ?_
 refine Cd h (fun hb27 h28 => ?_) (fun hb27 h29 => ?_)
 ·refine Sq (Rg [0, 1] ?_)
  refine Ld hs26.at1 ?_
  refine St0 (Ae x0 a0_2 n0_2) hs26 (fun w30 hs31 => ?_)
  refine Nt ?_
  refine Rt ?_
  refine Af ?_
  obtain rfl := Aa h28
  exact ⟨rfl, (.agg (Ae x0 a0_2 n0_2)), Av (l := [.cell 2 33]) (by kernel_rfl) (vs := [(.agg (Ae x0 a0_2 n0_2))]) ⟨b24, 0, rfl, Ai (t := 33) (g := true) (s := 3) (by kernel_rfl) hs31.at0 rfl (by decide), trivial⟩, (.agg (Ae x0 a0_2 n0_2)), F0, rfl, hs31.clear, ⟨a0_2, n0_2, rfl, hb0_2, hs0_2⟩⟩
 ·refine Sc ?_
  refine Ac ?_
  refine Sq (Rg [0, 1, 2, 3, 4, 5] ?_)
  refine Vs 1 ?_
  refine Ld hs26.at1 ?_
  obtain ⟨x32, hx33, h35⟩ := bind_some h29
  obtain ⟨hi34, hx33'⟩ := Ay hx33
  obtain ⟨b36, o37, C38, E39, fz40, rfl, hF42, hE43⟩ := Sh hs0_2 hx33'
  obtain ⟨ae44_2, ne44_2, hc45, hbe44_2, hse44_2⟩ := (AR (hE43 _ _ hx33'))
  refine Ix hi34 ?_
  refine Lx 0 (hs26.pers _ _ hF42) hc45 ?_
  refine Al' 33 #[(vi 0), (vi 0), (.slice none ([] : List Expr).length 0)] hs26 (fun b46 w47 hs48 => ?_)
  refine St0 (Ae x32 ae44_2 ne44_2) hs48 (fun w49 hs50 => ?_)
  refine Nss ?_
  refine Sq (Rg [0, 1, 2] ?_)
  refine Vs 1 ?_
  refine Ld hs50.at2 ?_
  refine Vs 1 ?_
  refine Nt ?_
  refine Cd h35 (fun hb51 h52 => ?_) (fun hb51 h53 => ?_)
  ·refine Sq ?_
   refine Bk ?_
   refine Sq ?_
   refine Sq (Rg [0, 1, 2] ?_)
   refine Ld hs50.at0 ?_
   obtain ⟨r54, hr55, h56⟩ := bind_some h52
   refine Cl' Bf hs50 (Bh N w49 F0 hs50.pers x32 ae44_2 ne44_2 hbe44_2 hse44_2 true _ hr55) ?_
   rintro _ F1 w58 hs59 le60 rfl
   refine Vs 1 ?_
   refine Nt ?_
   obtain ⟨j65, hj71, h72⟩ := bind_some h56
   refine Se (fun f w => ∃ (F2 : Mem), HS w0 F0 w F2 [(sb b46 (Ae x32 ae44_2 ne44_2) 33), (sb b24 #[(vi 0), (vi 0), (.slice none ([] : List Expr).length 0)] 33), (sb b21 (Ae x0 (some ⟨b36, o37, none⟩) n0_2) 33)] /\ R5 F1 F2 /\ FI f [] [(1, (pt b21 0)), (2, (pt b24 0)), (3, (pt b46 0)), (19, (.bool j65))]) ?_ ?_
   ·refine Cd hj71 (fun hb73 h74 => ?_) (fun hb73 h75 => ?_)
    ·refine Sc ?_
     obtain rfl := Aa h74
     exact .inl ⟨rfl, F1, hs59, (R6 _), fI⟩
    ·refine Rg [0, 1, 2] ?_
     refine Ld hs59.at0 ?_
     obtain ⟨r76, hr77, h78⟩ := bind_some h75
     refine Cl' Bf hs59 (Bh N w58 F1 hs59.pers x32 ae44_2 ne44_2 hbe44_2 (R8 hse44_2 le60) false _ hr77) ?_
     rintro _ F3 w80 hs81 le82 rfl
     refine Vs 1 ?_
     refine RY ?_
     obtain rfl := Aa h78
     exact .inl ⟨rfl, F3, hs81, le82, fI⟩
   ·rintro f w62 ⟨F2, hs63, le64, ⟨_, rfl⟩⟩
    refine Ac ?_
    refine Cd h72 (fun hb84 h85 => ?_) (fun hb84 h86 => ?_)
    ·refine Sq (Rg [0, 1, 2, 3] ?_)
     refine Ld hs63.at0 ?_
     obtain ⟨r87, hr88, h89⟩ := bind_some h85
     refine Cl' Bf hs63 (Bh N w62 F2 hs63.pers x32 ae44_2 ne44_2 hbe44_2 (R8 hse44_2 (le60.trans le64)) false _ hr88) ?_
     rintro _ F4 w91 hs92 le93 rfl
     obtain ⟨r95, hr96, h97⟩ := bind_some h89
     refine Cl' A3 hs92 (Ba N w91 F4 hs92.pers r87 _ hr96) ?_
     rintro _ F5 w99 hs100 le101 ⟨ar95_0_2, nr95_0_2, rfl, hbr95_0_2, hsr95_0_2⟩
     refine St1 (Ae r95 ar95_0_2 nr95_0_2) hs100 (fun w103 hs104 => ?_)
     refine Nt ?_
     refine Rt ?_
     refine Ah ?_
     refine Af ?_
     refine Af ?_
     obtain rfl := Aa h97
     exact ⟨rfl, (.agg (Ae r95 ar95_0_2 nr95_0_2)), Av (l := [.cell 2 33]) (by kernel_rfl) (vs := [(.agg (Ae r95 ar95_0_2 nr95_0_2))]) ⟨b24, 0, rfl, Ai (t := 33) (g := true) (s := 3) (by kernel_rfl) hs104.at1 rfl (by decide), trivial⟩, (.agg (Ae r95 ar95_0_2 nr95_0_2)), F5, rfl, hs104.clear, ⟨ar95_0_2, nr95_0_2, rfl, hbr95_0_2, hsr95_0_2⟩⟩
    ·refine Sq (Rg [0, 1, 2, 3] ?_)
     refine Vs 1 ?_
     refine Ld hs63.at0 ?_
     refine Vs 2 ?_
     refine Nt ?_
     refine Cd h86 (fun hb105 h106 => ?_) (fun hb105 h107 => ?_)
     ·refine Sq (Rg [0, 1, 2, 3, 4] ?_)
      refine Vs 1 ?_
      refine Ld hs63.at0 ?_
      obtain ⟨x108, hx109, h111⟩ := bind_some h106
      obtain ⟨hi110, hx109'⟩ := Ay hx109
      obtain ⟨b112, o113, C114, E115, fz116, rfl, hF118, hE119⟩ := Sh (R8 hse44_2 (le60.trans le64)) hx109'
      obtain ⟨ae120_2, ne120_2, hc121, hbe120_2, hse120_2⟩ := (AR (hE119 _ _ hx109'))
      refine Ix hi110 ?_
      refine Lx 0 (hs63.pers _ _ hF118) hc121 ?_
      refine St1 (Ae x108 ae120_2 ne120_2) hs63 (fun w122 hs123 => ?_)
      refine Nt ?_
      refine Rt ?_
      refine Ah ?_
      refine Af ?_
      refine Af ?_
      obtain rfl := Aa h111
      exact ⟨rfl, (.agg (Ae x108 ae120_2 ne120_2)), Av (l := [.cell 2 33]) (by kernel_rfl) (vs := [(.agg (Ae x108 ae120_2 ne120_2))]) ⟨b24, 0, rfl, Ai (t := 33) (g := true) (s := 3) (by kernel_rfl) hs123.at1 rfl (by decide), trivial⟩, (.agg (Ae x108 ae120_2 ne120_2)), F2, rfl, hs123.clear, ⟨ae120_2, ne120_2, rfl, hbe120_2, hse120_2⟩⟩
     ·refine Sc ?_
      refine Ap ?_
      refine Ac ?_
      refine Sq (Rg [0, 1] ?_)
      refine Ld hs63.at2 ?_
      refine St1 (Ae x0 (some ⟨b36, o37, none⟩) n0_2) hs63 (fun w124 hs125 => ?_)
      refine Nt ?_
      refine Rt ?_
      refine Af ?_
      obtain rfl := Aa h107
      exact ⟨rfl, (.agg (Ae x0 (some ⟨b36, o37, none⟩) n0_2)), Av (l := [.cell 2 33]) (by kernel_rfl) (vs := [(.agg (Ae x0 (some ⟨b36, o37, none⟩) n0_2))]) ⟨b24, 0, rfl, Ai (t := 33) (g := true) (s := 3) (by kernel_rfl) hs125.at1 rfl (by decide), trivial⟩, (.agg (Ae x0 (some ⟨b36, o37, none⟩) n0_2)), F2, rfl, hs125.clear, ⟨(some ⟨b36, o37, none⟩), n0_2, rfl, hb0_2, (R8 hs0_2 (le60.trans le64))⟩⟩
  ·refine Sc ?_
   refine Ac ?_
   refine Sq (Rg [0, 1, 2, 3, 4, 5] ?_)
   refine Vs 1 ?_
   refine Ld hs50.at2 ?_
   obtain ⟨x126, hx127, h129⟩ := bind_some h53
   obtain ⟨hi128, hx127'⟩ := Ay hx127
   obtain ⟨ae130_2, ne130_2, hc131, hbe130_2, hse130_2⟩ := (AR (hE43 _ _ hx127'))
   refine Ix hi128 ?_
   refine Lx 0 (hs50.pers _ _ hF42) hc131 ?_
   refine Al' 33 #[(vi 0), (vi 0), (.slice none ([] : List Expr).length 0)] hs50 (fun b132 w133 hs134 => ?_)
   refine St0 (Ae x126 ae130_2 ne130_2) hs134 (fun w135 hs136 => ?_)
   refine Nss (Rg [0, 1, 2, 3, 4, 5, 6, 7, 8] ?_)
   refine Sb (fun f w => ∃ (F6 : Mem), HS w0 F0 w F6 [(sb b132 (Ae x126 ae130_2 ne130_2) 33), (sb b46 (Ae x32 ae44_2 ne44_2) 33), (sb b24 #[(vi 0), (vi 0), (.slice none ([] : List Expr).length 0)] 33), (sb b21 (Ae x0 (some ⟨b36, o37, none⟩) n0_2) 33)] /\ R5 F0 F6 /\ FI f [] [(1, (pt b21 0)), (2, (pt b24 0)), (3, (pt b46 0)), (4, (pt b132 0)), (5, (.bool ((x32.Op == 1) && (x126.Op == 1))))]) ?_ ?_
   ·refine Vs 1 ?_
    refine Ld hs136.at1 ?_
    refine Vs 2 ?_
    refine Sa (x32.Op == 1) (fun hb146 => ?_) (fun hb146 => ?_)
    ·refine Vgs hb146 1 ?_
     refine Lg hb146 hs136.at0 ?_
     refine Vgs hb146 1 ?_
     refine Pk1 hb146 ?_
     refine Vs 1 ?_
     exact RY ⟨rfl, F0, hs136, (R6 _), (fJ ⟨rfl, rfl, rfl, rfl, (congrArg Value.bool (Dc hb146 rfl)), trivial⟩)⟩
    ·refine Ss hb146 3 ?_
     refine Pk0 hb146 ?_
     refine Vs 1 ?_
     exact RY ⟨rfl, F0, hs136, (R6 _), (fJ ⟨rfl, rfl, rfl, rfl, (congrArg Value.bool (E8 hb146 rfl)), trivial⟩)⟩
   ·rintro f w137 ⟨F6, hs138, le139, ⟨_, rfl⟩⟩
    refine Ac ?_
    refine Sq ?_
    refine Sq (Rg [0, 1] ?_)
    refine Vs 1 ?_
    refine Ld hs138.at3 ?_
    refine Nt ?_
    refine Bk ?_
    refine Sq ?_
    refine Sq (Rg [0, 1] ?_)
    refine Vs 2 ?_
    refine Nt ?_
    refine Se (fun f w => ∃ (F7 : Mem), HS w0 F0 w F7 [(sb b132 (Ae x126 ae130_2 ne130_2) 33), (sb b46 (Ae x32 ae44_2 ne44_2) 33), (sb b24 #[(vi 0), (vi 0), (.slice none ([] : List Expr).length 0)] 33), (sb b21 (Ae x0 (some ⟨b36, o37, none⟩) n0_2) 33)] /\ R5 F6 F7 /\ FI f [] [(1, (pt b21 0)), (2, (pt b24 0)), (3, (pt b46 0)), (4, (pt b132 0)), (5, (.bool ((x32.Op == 1) && (x126.Op == 1)))), (49, (vi x0.Op)), (50, (.bool (bif (x0.Op == 6) then (x0.Op == 6) else (x0.Op == 7))))]) ?_ ?_
    ·refine Cp (x0.Op == 6) (fun hb158 => ?_) (fun hb158 => ?_)
     ·refine Sc ?_
      exact .inl ⟨rfl, F6, hs138, (R6 _), (fJ ⟨rfl, rfl, rfl, rfl, rfl, rfl, (congrArg Value.bool (Is hb158 rfl)), trivial⟩)⟩
     ·refine Rg [0, 1] ?_
      refine Vs 2 ?_
      refine RY ?_
      exact .inl ⟨rfl, F6, hs138, (R6 _), (fJ ⟨rfl, rfl, rfl, rfl, rfl, rfl, (congrArg Value.bool (It hb158 rfl)), trivial⟩)⟩
    ·rintro f w147 ⟨F7, hs148, le149, ⟨_, rfl⟩⟩
     refine Ac ?_
     refine Cd h129 (fun hb159 h160 => ?_) (fun hb159 h161 => ?_)
     ·refine Sq (Rg [0, 1, 2, 3, 4, 5] ?_)
      obtain ⟨j165, hj173, h174⟩ := bind_some h160
      refine Sb (fun f w => ∃ (F8 : Mem), HS w0 F0 w F8 [(sb b132 (Ae x126 ae130_2 ne130_2) 33), (sb b46 (Ae x32 ae44_2 ne44_2) 33), (sb b24 #[(vi 0), (vi 0), (.slice none ([] : List Expr).length 0)] 33), (sb b21 (Ae x0 (some ⟨b36, o37, none⟩) n0_2) 33)] /\ R5 F7 F8 /\ FI f [] [(1, (pt b21 0)), (2, (pt b24 0)), (3, (pt b46 0)), (4, (pt b132 0)), (5, (.bool ((x32.Op == 1) && (x126.Op == 1)))), (58, (.bool j165))]) ?_ ?_
      ·refine Vs 2 ?_
       refine Sp hj173 (fun hb175 h176 => ?_) (fun hb175 h177 => ?_)
       ·refine Ss hb175 3 ?_
        refine Pk1 hb175 ?_
        obtain rfl := Aa h176
        exact RY ⟨rfl, F7, hs148, (R6 _), fI⟩
       ·refine Lg hb175 hs148.at1 ?_
        refine Lg hb175 hs148.at0 ?_
        obtain ⟨r178, hr179, h180⟩ := bind_some h177
        refine Cg hb175 Cl hs148 (C5 N w147 F7 hs148.pers x32 ae44_2 ne44_2 hbe44_2 (R8 hse44_2 (le139.trans le149)) x126 ae130_2 ne130_2 hbe130_2 (R8 hse130_2 (le139.trans le149)) _ hr179) ?_
        rintro _ F9 w182 hs183 le184 rfl
        refine Pk0 hb175 ?_
        obtain rfl := Aa h180
        exact RY ⟨rfl, F9, hs183, le184, fI⟩
      ·rintro f w162 ⟨F8, hs163, le164, ⟨_, rfl⟩⟩
       refine Ac ?_
       refine Cd h174 (fun hb186 h187 => ?_) (fun hb186 h188 => ?_)
       ·refine Sq (Rg [0, 1, 2, 3, 4, 5, 6, 7, 8, 9, 10, 11, 12, 13, 14, 15, 16, 17, 18, 19, 20, 21, 22, 23, 24] ?_)
        obtain ⟨j192, hj195, h196⟩ := bind_some h187
        refine Sb (fun f w => ∃ (F10 : Mem) (aj192_2 : Sy) (nj192_2 : Nat), HS w0 F0 w F10 [(sb b24 #[(vi j192.1), (vi j192.2.1), (.slice aj192_2 j192.2.2.length nj192_2)] 33)] /\ R5 F8 F10 /\ FI f [] [(2, (pt b24 0))] /\ LC j192.2.2.length nj192_2 /\ SlA Ao F10 aj192_2 j192.2.2) ?_ ?_
        ·refine Vs 1 ?_
         refine Ld hs163.at3 ?_
         refine Vs 2 ?_
         refine Sp hj195 (fun hb197 h198 => ?_) (fun hb197 h199 => ?_)
         ·refine Lg hb197 hs163.at1 ?_
          refine Lg hb197 hs163.at0 ?_
          obtain ⟨r200, hr201, h202⟩ := bind_some h198
          refine Cg hb197 Cl hs163 (C5 N w162 F8 hs163.pers x32 ae44_2 ne44_2 hbe44_2 (R8 hse44_2 ((le139.trans le149).trans le164)) x126 ae130_2 ne130_2 hbe130_2 (R8 hse130_2 ((le139.trans le149).trans le164)) _ hr201) ?_
          rintro _ F11 w204 hs205 le206 rfl
          refine Pk1 hb197 ?_
          refine Vs 1 ?_
          refine Sp h202 (fun hb208 h209 => ?_) (fun hb208 h210 => ?_)
          ·refine Ss hb208 4 ?_
           refine Su' 1 ?_
           refine Ss hb208 2 ?_
           refine Su' 5 ?_
           refine Ss hb208 1 ?_
           refine Pk1 hb208 ?_
           obtain ⟨r211, hr212, h213⟩ := bind_some h209
           refine Cl' A3 hs205 (Ba N w204 F11 hs205.pers true _ hr212) ?_
           rintro _ F12 w215 hs216 le217 ⟨ar211_0_2, nr211_0_2, rfl, hbr211_0_2, hsr211_0_2⟩
           refine St2 (Ae r211 ar211_0_2 nr211_0_2) hs216 (fun w219 hs220 => ?_)
           obtain rfl := Aa h213
           exact RY ⟨rfl, F12, ar211_0_2, nr211_0_2, hs220.dr0.dr0.dr1, (le206.trans le217), fI, hbr211_0_2, hsr211_0_2⟩
          ·refine Vgs hb208 1 ?_
           refine Lg hb208 hs205.at3 ?_
           refine Vgs hb208 2 ?_
           refine Sp h210 (fun hb221 h222 => ?_) (fun hb221 h223 => ?_)
           ·refine Vgs hb221 1 ?_
            refine Pg1 hb208 hb221 ?_
            refine Vgs hb208 1 ?_
            refine Sp h222 (fun hb224 h225 => ?_) (fun hb224 h226 => ?_)
            ·refine Vgs hb224 1 ?_
             refine Lg hb224 hs205.at1 ?_
             refine Vgs hb224 1 ?_
             refine Lg hb224 hs205.at0 ?_
             refine Vgs hb224 1 ?_
             refine Pg1 hb208 hb224 ?_
             refine Pk0 hb208 ?_
             obtain ⟨r227, hr228, h229⟩ := bind_some h225
             refine Cl' A3 hs205 (Ba N w204 F11 hs205.pers ((decide (x32.Value < x126.Value))) _ hr228) ?_
             rintro _ F13 w231 hs232 le233 ⟨ar227_0_2, nr227_0_2, rfl, hbr227_0_2, hsr227_0_2⟩
             refine St2 (Ae r227 ar227_0_2 nr227_0_2) hs232 (fun w235 hs236 => ?_)
             obtain rfl := Aa h229
             exact RY ⟨rfl, F13, ar227_0_2, nr227_0_2, hs236.dr0.dr0.dr1, (le206.trans le233), fI, hbr227_0_2, hsr227_0_2⟩
            ·refine Ss hb224 5 ?_
             refine Pg0 hb208 hb224 ?_
             refine Pk0 hb208 ?_
             obtain ⟨r237, hr238, h239⟩ := bind_some h226
             refine Cl' A3 hs205 (Ba N w204 F11 hs205.pers false _ hr238) ?_
             rintro _ F14 w241 hs242 le243 ⟨ar237_0_2, nr237_0_2, rfl, hbr237_0_2, hsr237_0_2⟩
             refine St2 (Ae r237 ar237_0_2 nr237_0_2) hs242 (fun w245 hs246 => ?_)
             obtain rfl := Aa h239
             exact RY ⟨rfl, F14, ar237_0_2, nr237_0_2, hs246.dr0.dr0.dr1, (le206.trans le243), fI, hbr237_0_2, hsr237_0_2⟩
           ·refine Ss hb221 1 ?_
            refine Pg0 hb208 hb221 ?_
            refine Vgs hb208 1 ?_
            refine Ss (rfl : false = false) 5 ?_
            refine Pg0 hb208 (rfl : false = false) ?_
            refine Pk0 hb208 ?_
            obtain ⟨r247, hr248, h249⟩ := bind_some h223
            refine Cl' A3 hs205 (Ba N w204 F11 hs205.pers false _ hr248) ?_
            rintro _ F15 w251 hs252 le253 ⟨ar247_0_2, nr247_0_2, rfl, hbr247_0_2, hsr247_0_2⟩
            refine St2 (Ae r247 ar247_0_2 nr247_0_2) hs252 (fun w255 hs256 => ?_)
            obtain rfl := Aa h249
            exact RY ⟨rfl, F15, ar247_0_2, nr247_0_2, hs256.dr0.dr0.dr1, (le206.trans le253), fI, hbr247_0_2, hsr247_0_2⟩
         ·refine Ss hb197 3 ?_
          refine Pk0 hb197 ?_
          refine Vs 1 ?_
          refine Vg 68 0 8 false 67 rfl (fa 33 1 0 0 1 b21 0 0) ?_
          refine Vg 69 3 8 false 67 rfl (ld 3 68 b21 0 false 1 (vi x0.Op) hs163.at3) ?_
          refine Vg 70 4 8 false 67 rfl (N5 (t := 3) (t' := 3) (x := (.tmp 69)) (y := (.const (vi 7))) (k := .i64) (a := x0.Op) (b := 7) rfl rfl) ?_
          refine Vg 71 4 8 false 67 rfl (mv 70 (.bool (x0.Op == 7))) ?_
          refine Sp h199 (fun hb257 h258 => ?_) (fun hb257 h259 => ?_)
          ·refine Vgs hb257 1 ?_
           refine Vg 73 4 8 false 67 rfl (p1 71 (.tmp 72) (.const (.bool false)) (.bool ((x32.Op == 1) && (x126.Op == 1))) hb257) ?_
           refine Vg 74 4 8 false 67 rfl (mv 73 (.bool ((x32.Op == 1) && (x126.Op == 1)))) ?_
           refine Sp h258 (fun hb260 h261 => ?_) (fun hb260 h262 => ?_)
           ·refine Vgs hb260 1 ?_
            refine Lg hb260 hs163.at1 ?_
            refine Vgs hb260 1 ?_
            refine Lg hb260 hs163.at0 ?_
            refine Vgs hb260 1 ?_
            refine Vg 80 4 8 false 67 rfl (p1 74 (.tmp 79) (.const (.bool false)) (.bool (decide (x32.Value < x126.Value))) hb260) ?_
            refine Pk0 (rfl : false = false) ?_
            obtain ⟨r263, hr264, h265⟩ := bind_some h261
            refine Cl' A3 hs163 (Ba N w162 F8 hs163.pers ((decide (x32.Value < x126.Value))) _ hr264) ?_
            rintro _ F16 w267 hs268 le269 ⟨ar263_0_2, nr263_0_2, rfl, hbr263_0_2, hsr263_0_2⟩
            refine St2 (Ae r263 ar263_0_2 nr263_0_2) hs268 (fun w271 hs272 => ?_)
            obtain rfl := Aa h265
            exact RY ⟨rfl, F16, ar263_0_2, nr263_0_2, hs272.dr0.dr0.dr1, le269, fI, hbr263_0_2, hsr263_0_2⟩
           ·refine Ss hb260 5 ?_
            refine Vg 80 4 8 false 67 rfl (p0 74 (.tmp 79) (.const (.bool false)) (.bool false) hb260) ?_
            refine Pk0 (rfl : false = false) ?_
            obtain ⟨r273, hr274, h275⟩ := bind_some h262
            refine Cl' A3 hs163 (Ba N w162 F8 hs163.pers false _ hr274) ?_
            rintro _ F17 w277 hs278 le279 ⟨ar273_0_2, nr273_0_2, rfl, hbr273_0_2, hsr273_0_2⟩
            refine St2 (Ae r273 ar273_0_2 nr273_0_2) hs278 (fun w281 hs282 => ?_)
            obtain rfl := Aa h275
            exact RY ⟨rfl, F17, ar273_0_2, nr273_0_2, hs282.dr0.dr0.dr1, le279, fI, hbr273_0_2, hsr273_0_2⟩
          ·refine Ss hb257 1 ?_
           refine Vg 73 4 8 false 67 rfl (p0 71 (.tmp 72) (.const (.bool false)) (.bool false) hb257) ?_
           refine Vg 74 4 8 false 67 rfl (mv 73 (.bool false)) ?_
           refine Ss (rfl : false = false) 5 ?_
           refine Vg 80 4 8 false 67 rfl (p0 74 (.tmp 79) (.const (.bool false)) (.bool false) rfl) ?_
           refine Pk0 (rfl : false = false) ?_
           obtain ⟨r283, hr284, h285⟩ := bind_some h259
           refine Cl' A3 hs163 (Ba N w162 F8 hs163.pers false _ hr284) ?_
           rintro _ F18 w287 hs288 le289 ⟨ar283_0_2, nr283_0_2, rfl, hbr283_0_2, hsr283_0_2⟩
           refine St2 (Ae r283 ar283_0_2 nr283_0_2) hs288 (fun w291 hs292 => ?_)
           obtain rfl := Aa h285
           exact RY ⟨rfl, F18, ar283_0_2, nr283_0_2, hs292.dr0.dr0.dr1, le289, fI, hbr283_0_2, hsr283_0_2⟩
        ·rintro f w189 ⟨F10, aj192_2, nj192_2, hs190, le191, ⟨_, rfl⟩, hbj192_2, hsj192_2⟩
         refine Ac ?_
         refine Rt ?_
         refine Ah ?_
         refine Af ?_
         obtain rfl := Aa h196
         exact ⟨rfl, (.agg #[(vi j192.1), (vi j192.2.1), (.slice aj192_2 j192.2.2.length nj192_2)]), Av (l := [.cell 2 33]) (by kernel_rfl) (vs := [(.agg #[(vi j192.1), (vi j192.2.1), (.slice aj192_2 j192.2.2.length nj192_2)])]) ⟨b24, 0, rfl, Ai (t := 33) (g := true) (s := 3) (by kernel_rfl) hs190.at0 rfl (by decide), trivial⟩, (.agg #[(vi j192.1), (vi j192.2.1), (.slice aj192_2 j192.2.2.length nj192_2)]), F10, rfl, hs190.clear, ⟨aj192_2, nj192_2, rfl, hbj192_2, hsj192_2⟩⟩
       ·refine Sc ?_
        refine Ap ?_
        refine Ac ?_
        refine Sq (Rg [0, 1] ?_)
        refine Ld hs163.at3 ?_
        refine St2 (Ae x0 (some ⟨b36, o37, none⟩) n0_2) hs163 (fun w293 hs294 => ?_)
        refine Nt ?_
        refine Rt ?_
        obtain rfl := Aa h188
        exact ⟨rfl, (.agg (Ae x0 (some ⟨b36, o37, none⟩) n0_2)), Av (l := [.cell 2 33]) (by kernel_rfl) (vs := [(.agg (Ae x0 (some ⟨b36, o37, none⟩) n0_2))]) ⟨b24, 0, rfl, Ai (t := 33) (g := true) (s := 3) (by kernel_rfl) hs294.at2 rfl (by decide), trivial⟩, (.agg (Ae x0 (some ⟨b36, o37, none⟩) n0_2)), F8, rfl, hs294.clear, ⟨(some ⟨b36, o37, none⟩), n0_2, rfl, hb0_2, (R8 hs0_2 ((le139.trans le149).trans le164))⟩⟩
     ·refine Sq ?_
      refine Sq (Rg [0, 1] ?_)
      refine Vs 2 ?_
      refine Nt ?_
      refine Se (fun f w => ∃ (F19 : Mem), HS w0 F0 w F19 [(sb b132 (Ae x126 ae130_2 ne130_2) 33), (sb b46 (Ae x32 ae44_2 ne44_2) 33), (sb b24 #[(vi 0), (vi 0), (.slice none ([] : List Expr).length 0)] 33), (sb b21 (Ae x0 (some ⟨b36, o37, none⟩) n0_2) 33)] /\ R5 F7 F19 /\ FI f [] [(1, (pt b21 0)), (2, (pt b24 0)), (3, (pt b46 0)), (4, (pt b132 0)), (5, (.bool ((x32.Op == 1) && (x126.Op == 1)))), (49, (vi x0.Op)), (83, (.bool (bif (x0.Op == 4) then (x0.Op == 4) else (x0.Op == 5))))]) ?_ ?_
      ·refine Cp (x0.Op == 4) (fun hb306 => ?_) (fun hb306 => ?_)
       ·refine Sc ?_
        exact .inl ⟨rfl, F7, hs148, (R6 _), (fJ ⟨rfl, rfl, rfl, rfl, rfl, rfl, (congrArg Value.bool (Is hb306 rfl)), trivial⟩)⟩
       ·refine Rg [0, 1] ?_
        refine Vs 2 ?_
        refine RY ?_
        exact .inl ⟨rfl, F7, hs148, (R6 _), (fJ ⟨rfl, rfl, rfl, rfl, rfl, rfl, (congrArg Value.bool (It hb306 rfl)), trivial⟩)⟩
      ·rintro f w295 ⟨F19, hs296, le297, ⟨_, rfl⟩⟩
       refine Ac ?_
       refine Cd h161 (fun hb307 h308 => ?_) (fun hb307 h309 => ?_)
       ·refine Sq (Rg [0, 1, 2, 3, 4] ?_)
        refine Ld hs296.at3 ?_
        refine Ld hs296.at1 ?_
        refine Ld hs296.at0 ?_
        obtain ⟨r310, hr311, h312⟩ := bind_some h308
        refine Cl' JP hs296 (KG N w295 F19 hs296.pers x0 (some ⟨b36, o37, none⟩) n0_2 hb0_2 (R8 hs0_2 ((le139.trans le149).trans le297)) x32 ae44_2 ne44_2 hbe44_2 (R8 hse44_2 ((le139.trans le149).trans le297)) x126 ae130_2 ne130_2 hbe130_2 (R8 hse130_2 ((le139.trans le149).trans le297)) _ hr311) ?_
        rintro _ F20 w314 hs315 le316 ⟨ar310_0_2, nr310_0_2, rfl, hbr310_0_2, hsr310_0_2⟩
        refine St2 (Ae r310 ar310_0_2 nr310_0_2) hs315 (fun w318 hs319 => ?_)
        refine Nt ?_
        refine Rt ?_
        refine Ah ?_
        refine Af ?_
        obtain rfl := Aa h312
        exact ⟨rfl, (.agg (Ae r310 ar310_0_2 nr310_0_2)), Av (l := [.cell 2 33]) (by kernel_rfl) (vs := [(.agg (Ae r310 ar310_0_2 nr310_0_2))]) ⟨b24, 0, rfl, Ai (t := 33) (g := true) (s := 3) (by kernel_rfl) hs319.at2 rfl (by decide), trivial⟩, (.agg (Ae r310 ar310_0_2 nr310_0_2)), F20, rfl, hs319.clear, ⟨ar310_0_2, nr310_0_2, rfl, hbr310_0_2, hsr310_0_2⟩⟩
       ·refine Sq ?_
        refine Sq (Rg [0, 1] ?_)
        refine Vs 2 ?_
        refine Nt ?_
        refine Se (fun f w => ∃ (F21 : Mem), HS w0 F0 w F21 [(sb b132 (Ae x126 ae130_2 ne130_2) 33), (sb b46 (Ae x32 ae44_2 ne44_2) 33), (sb b24 #[(vi 0), (vi 0), (.slice none ([] : List Expr).length 0)] 33), (sb b21 (Ae x0 (some ⟨b36, o37, none⟩) n0_2) 33)] /\ R5 F19 F21 /\ FI f [] [(1, (pt b21 0)), (2, (pt b24 0)), (3, (pt b46 0)), (4, (pt b132 0)), (5, (.bool ((x32.Op == 1) && (x126.Op == 1)))), (49, (vi x0.Op)), (90, (.bool (bif (x0.Op == 8) then (x0.Op == 8) else (bif (x0.Op == 9) then (x0.Op == 9) else (x0.Op == 10)))))]) ?_ ?_
        ·refine Cp (x0.Op == 8) (fun hb331 => ?_) (fun hb331 => ?_)
         ·refine Sc ?_
          exact .inl ⟨rfl, F19, hs296, (R6 _), (fJ ⟨rfl, rfl, rfl, rfl, rfl, rfl, (congrArg Value.bool (Is hb331 rfl)), trivial⟩)⟩
         ·refine Sq (Rg [0, 1] ?_)
          refine Vs 2 ?_
          refine Nt ?_
          refine Se (fun f w => ∃ (F22 : Mem), HS w0 F0 w F22 [(sb b132 (Ae x126 ae130_2 ne130_2) 33), (sb b46 (Ae x32 ae44_2 ne44_2) 33), (sb b24 #[(vi 0), (vi 0), (.slice none ([] : List Expr).length 0)] 33), (sb b21 (Ae x0 (some ⟨b36, o37, none⟩) n0_2) 33)] /\ R5 F19 F22 /\ FI f [] [(1, (pt b21 0)), (2, (pt b24 0)), (3, (pt b46 0)), (4, (pt b132 0)), (5, (.bool ((x32.Op == 1) && (x126.Op == 1)))), (49, (vi x0.Op)), (90, (.bool (bif (x0.Op == 9) then (x0.Op == 9) else (x0.Op == 10))))]) ?_ ?_
          ·refine Cp (x0.Op == 9) (fun hb343 => ?_) (fun hb343 => ?_)
           ·refine Sc ?_
            exact .inl ⟨rfl, F19, hs296, (R6 _), (fJ ⟨rfl, rfl, rfl, rfl, rfl, rfl, (congrArg Value.bool (Is hb343 rfl)), trivial⟩)⟩
           ·refine Rg [0, 1] ?_
            refine Vs 2 ?_
            refine RY ?_
            exact .inl ⟨rfl, F19, hs296, (R6 _), (fJ ⟨rfl, rfl, rfl, rfl, rfl, rfl, (congrArg Value.bool (It hb343 rfl)), trivial⟩)⟩
          ·rintro f w332 ⟨F22, hs333, le334, ⟨_, rfl⟩⟩
           exact .inl ⟨rfl, F22, hs333, le334, (fJ ⟨rfl, rfl, rfl, rfl, rfl, rfl, (congrArg Value.bool (It hb331 rfl)), trivial⟩)⟩
        ·rintro f w320 ⟨F21, hs321, le322, ⟨_, rfl⟩⟩
         refine Ac ?_
         refine Cd h309 (fun hb344 h345 => ?_) (fun hb344 h346 => ?_)
         ·refine Sq ?_
          refine Sq ?_
          obtain ⟨j352, hj360, h361⟩ := bind_some h345
          refine RD 4 4 [(sb b132 (Ae x126 ae130_2 ne130_2) 33), (sb b46 (Ae x32 ae44_2 ne44_2) 33), (sb b24 #[(vi 0), (vi 0), (.slice none ([] : List Expr).length 0)] 33), (sb b21 (Ae x0 (some ⟨b36, o37, none⟩) n0_2) 33)] [] hs321 (fun f w => ∃ (F23 : Mem), HS w0 F0 w F23 [(sb b132 (Ae x126 ae130_2 ne130_2) 33), (sb b46 (Ae x32 ae44_2 ne44_2) 33), (sb b24 #[(vi 0), (vi 0), (.slice none ([] : List Expr).length 0)] 33), (sb b21 (Ae x0 (some ⟨b36, o37, none⟩) n0_2) 33)] /\ R5 F21 F23 /\ FI f [] [(1, (pt b21 0)), (2, (pt b24 0)), (3, (pt b46 0)), (4, (pt b132 0)), (5, (.bool ((x32.Op == 1) && (x126.Op == 1)))), (6, (vi j352))]) (fun wd347 hw348 => ?_) ?_
          ·refine Dl 0 (fun _ hq => (hq.1.2 3 _ _ rfl)) ?_
           refine D1 1 ?_
           obtain ⟨r362, hm363, h364⟩ := bind_some hj360
           refine Az.makeSlice (l' := [true, true, false, false]) (zd := true) (by kernel_rfl) (by kernel_rfl) (dst := (some 95)) (ty := 47) (g := none) (by kernel_rfl) rfl (x := (.const (vi 14))) (y := (.const (vi 14))) (t := 47) (by_ := 8) (z := (vi 0)) (T := Bu) (E := 3) rfl rfl (by kernel_rfl) (by decide) (by kernel_rfl) (z0 := 0) (fun _ => rfl) (by decide) hw348 hm363 (R6 _) (by simp) (fun e => by cases e) (fun b365 n366 C367 w368 (hs369 : HS w0 F0 w368 F21 [(some b365, .cells C367 3 (0, 0)), (sb b132 (Ae x126 ae130_2 ne130_2) 33), (sb b46 (Ae x32 ae44_2 ne44_2) 33), (sb b24 #[(vi 0), (vi 0), (.slice none ([] : List Expr).length 0)] 33), (sb b21 (Ae x0 (some ⟨b36, o37, none⟩) n0_2) 33)]) hr370 => ?_)
           refine D1 2 ?_
           have hb375 := Sn hr370
           obtain ⟨F24, hs372, le373, hs374⟩ := hs369.fr0 hr370
           obtain ⟨r376, hr377, h378⟩ := bind_some h364
           refine DCl CU hs372 (DY N w368 F24 hs372.pers x0 (some ⟨b36, o37, none⟩) n0_2 hb0_2 (R8 hs0_2 ((((le139.trans le149).trans le297).trans le322).trans le373)) r362 (some ⟨b365, 0, none⟩) n366 hb375 hs374 _ hr377) ?_
           rintro _ F25 w380 hs381 le382 rfl
           refine Dv [3] ?_
           obtain rfl := Aa h378
           exact Sm (by kernel_rfl) ⟨F25, hs381, (le373.trans le382), fI⟩
          ·rintro f w349 ⟨F23, hs350, le351, ⟨_, rfl⟩⟩
           refine Ac ?_
           refine Sq (Rg [0, 1, 2, 3, 4] ?_)
           refine Sb (fun f w => ∃ (F26 : Mem), HS w0 F0 w F26 [(sb b132 (Ae x126 ae130_2 ne130_2) 33), (sb b46 (Ae x32 ae44_2 ne44_2) 33), (sb b24 #[(vi 0), (vi 0), (.slice none ([] : List Expr).length 0)] 33), (sb b21 (Ae x0 (some ⟨b36, o37, none⟩) n0_2) 33)] /\ R5 F23 F26 /\ FI f [] [(1, (pt b21 0)), (2, (pt b24 0)), (3, (pt b46 0)), (4, (pt b132 0)), (6, (vi j352)), (101, (.bool (((x32.Op == 1) && (x126.Op == 1)) && (decide (j352 >= 0)))))]) ?_ ?_
           ·refine Vs 2 ?_
            refine Sa ((x32.Op == 1) && (x126.Op == 1)) (fun hb394 => ?_) (fun hb394 => ?_)
            ·refine Vgs hb394 2 ?_
             refine Pk1 hb394 ?_
             exact RY ⟨rfl, F23, hs350, (R6 _), (fJ ⟨rfl, rfl, rfl, rfl, rfl, (congrArg Value.bool (Dc hb394 rfl)), trivial⟩)⟩
            ·refine Ss hb394 2 ?_
             refine Pk0 hb394 ?_
             exact RY ⟨rfl, F23, hs350, (R6 _), (fJ ⟨rfl, rfl, rfl, rfl, rfl, (congrArg Value.bool (E8 hb394 rfl)), trivial⟩)⟩
           ·rintro f w384 ⟨F26, hs385, le386, ⟨_, rfl⟩⟩
            refine Ac ?_
            refine Cd h361 (fun hb395 h396 => ?_) (fun hb395 h397 => ?_)
            ·refine Sq (Rg [0, 1, 2] ?_)
             refine Vs 1 ?_
             obtain ⟨r398, hr399, h400⟩ := bind_some h396
             refine Cl' Ci hs385 (Cv N w384 F26 hs385.pers j352 _ hr399) ?_
             rintro _ F27 w402 hs403 le404 ⟨ar398_0_2, nr398_0_2, rfl, hbr398_0_2, hsr398_0_2⟩
             refine St2 (Ae r398 ar398_0_2 nr398_0_2) hs403 (fun w406 hs407 => ?_)
             refine Nt ?_
             refine Rt ?_
             refine Af ?_
             refine Ah ?_
             refine Af ?_
             obtain rfl := Aa h400
             exact ⟨rfl, (.agg (Ae r398 ar398_0_2 nr398_0_2)), Av (l := [.cell 2 33]) (by kernel_rfl) (vs := [(.agg (Ae r398 ar398_0_2 nr398_0_2))]) ⟨b24, 0, rfl, Ai (t := 33) (g := true) (s := 3) (by kernel_rfl) hs407.at2 rfl (by decide), trivial⟩, (.agg (Ae r398 ar398_0_2 nr398_0_2)), F27, rfl, hs407.clear, ⟨ar398_0_2, nr398_0_2, rfl, hbr398_0_2, hsr398_0_2⟩⟩
            ·refine Sc ?_
             refine Ac ?_
             refine Sq (Rg [0, 1, 2, 3, 4] ?_)
             refine Ld hs385.at3 ?_
             refine Ld hs385.at1 ?_
             refine Ld hs385.at0 ?_
             obtain ⟨r408, hr409, h410⟩ := bind_some h397
             refine Cl' Ig hs385 (Jg N w384 F26 hs385.pers x0 (some ⟨b36, o37, none⟩) n0_2 hb0_2 (R8 hs0_2 (((((le139.trans le149).trans le297).trans le322).trans le351).trans le386)) x32 ae44_2 ne44_2 hbe44_2 (R8 hse44_2 (((((le139.trans le149).trans le297).trans le322).trans le351).trans le386)) x126 ae130_2 ne130_2 hbe130_2 (R8 hse130_2 (((((le139.trans le149).trans le297).trans le322).trans le351).trans le386)) _ hr409) ?_
             rintro _ F28 w412 hs413 le414 ⟨ar408_0_2, nr408_0_2, rfl, hbr408_0_2, hsr408_0_2⟩
             refine St2 (Ae r408 ar408_0_2 nr408_0_2) hs413 (fun w416 hs417 => ?_)
             refine Nt ?_
             refine Rt ?_
             refine Ah ?_
             refine Af ?_
             obtain rfl := Aa h410
             exact ⟨rfl, (.agg (Ae r408 ar408_0_2 nr408_0_2)), Av (l := [.cell 2 33]) (by kernel_rfl) (vs := [(.agg (Ae r408 ar408_0_2 nr408_0_2))]) ⟨b24, 0, rfl, Ai (t := 33) (g := true) (s := 3) (by kernel_rfl) hs417.at2 rfl (by decide), trivial⟩, (.agg (Ae r408 ar408_0_2 nr408_0_2)), F28, rfl, hs417.clear, ⟨ar408_0_2, nr408_0_2, rfl, hbr408_0_2, hsr408_0_2⟩⟩
         ·refine Sq (Rg [0, 1] ?_)
          refine Vs 2 ?_
          refine Nt ?_
          refine Cd h346 (fun hb418 h419 => ?_) (fun hb418 h420 => ?_)
          ·refine Bk ?_
           refine Sq (Rg [0, 1, 2] ?_)
           refine Ld hs321.at1 ?_
           obtain ⟨r421, hr422, h423⟩ := bind_some h419
           refine Cl' Bf hs321 (Bh N w320 F21 hs321.pers x32 ae44_2 ne44_2 hbe44_2 (R8 hse44_2 (((le139.trans le149).trans le297).trans le322)) true _ hr422) ?_
           rintro _ F29 w425 hs426 le427 rfl
           refine Vs 1 ?_
           refine Nt ?_
           refine Cd h423 (fun hb429 h430 => ?_) (fun hb429 h431 => ?_)
           ·refine Sq (Rg [0, 1] ?_)
            refine Ld hs426.at0 ?_
            refine St2 (Ae x126 ae130_2 ne130_2) hs426 (fun w432 hs433 => ?_)
            refine Nt ?_
            refine Rt ?_
            refine Ah ?_
            refine Ah ?_
            refine Af ?_
            obtain rfl := Aa h430
            exact ⟨rfl, (.agg (Ae x126 ae130_2 ne130_2)), Av (l := [.cell 2 33]) (by kernel_rfl) (vs := [(.agg (Ae x126 ae130_2 ne130_2))]) ⟨b24, 0, rfl, Ai (t := 33) (g := true) (s := 3) (by kernel_rfl) hs433.at2 rfl (by decide), trivial⟩, (.agg (Ae x126 ae130_2 ne130_2)), F29, rfl, hs433.clear, ⟨ae130_2, ne130_2, rfl, hbe130_2, (R8 hse130_2 ((((le139.trans le149).trans le297).trans le322).trans le427))⟩⟩
           ·refine Sq (Rg [0, 1, 2] ?_)
            refine Ld hs426.at1 ?_
            obtain ⟨r434, hr435, h436⟩ := bind_some h431
            refine Cl' Bf hs426 (Bh N w425 F29 hs426.pers x32 ae44_2 ne44_2 hbe44_2 (R8 hse44_2 ((((le139.trans le149).trans le297).trans le322).trans le427)) false _ hr435) ?_
            rintro _ F30 w438 hs439 le440 rfl
            refine Vs 1 ?_
            refine Nt ?_
            refine Cd h436 (fun hb442 h443 => ?_) (fun hb442 h444 => ?_)
            ·refine Sq (Rg [0, 1, 2, 3, 4] ?_)
             refine Vs 1 ?_
             refine Ld hs439.at3 ?_
             obtain ⟨x445, hx446, h448⟩ := bind_some h443
             obtain ⟨hi447, hx446'⟩ := Ay hx446
             obtain ⟨ae449_2, ne449_2, hc450, hbe449_2, hse449_2⟩ := (AR (hE43 _ _ hx446'))
             refine Ix hi447 ?_
             refine Lx 0 (hs439.pers _ _ ((((((le139.trans le149).trans le297).trans le322).trans le427).trans le440) _ _ hF42)) hc450 ?_
             refine St2 (Ae x445 ae449_2 ne449_2) hs439 (fun w451 hs452 => ?_)
             refine Nt ?_
             refine Rt ?_
             refine Ah ?_
             refine Ah ?_
             refine Af ?_
             obtain rfl := Aa h448
             exact ⟨rfl, (.agg (Ae x445 ae449_2 ne449_2)), Av (l := [.cell 2 33]) (by kernel_rfl) (vs := [(.agg (Ae x445 ae449_2 ne449_2))]) ⟨b24, 0, rfl, Ai (t := 33) (g := true) (s := 3) (by kernel_rfl) hs452.at2 rfl (by decide), trivial⟩, (.agg (Ae x445 ae449_2 ne449_2)), F30, rfl, hs452.clear, ⟨ae449_2, ne449_2, rfl, hbe449_2, (R8 hse449_2 (((((le139.trans le149).trans le297).trans le322).trans le427).trans le440))⟩⟩
            ·refine Sq ?_
             obtain ⟨j458, hj464, h465⟩ := bind_some h444
             refine RD 7 7 [(sb b132 (Ae x126 ae130_2 ne130_2) 33), (sb b46 (Ae x32 ae44_2 ne44_2) 33), (sb b24 #[(vi 0), (vi 0), (.slice none ([] : List Expr).length 0)] 33), (sb b21 (Ae x0 (some ⟨b36, o37, none⟩) n0_2) 33)] [] hs439 (fun f w => ∃ (F31 : Mem), HS w0 F0 w F31 [(sb b132 (Ae x126 ae130_2 ne130_2) 33), (sb b24 #[(vi 0), (vi 0), (.slice none ([] : List Expr).length 0)] 33), (sb b21 (Ae x0 (some ⟨b36, o37, none⟩) n0_2) 33)] /\ R5 F30 F31 /\ FI f [] [(1, (pt b21 0)), (2, (pt b24 0)), (4, (pt b132 0)), (121, (.bool j458))]) (fun wd453 hw454 => ?_) ?_
             ·refine Dl 0 (fun _ hq => (hq.1.2 0 _ _ rfl)) ?_
              refine Dv [1] ?_
              refine Dl 2 (fun _ hq => (hq.1.2 3 _ _ rfl)) ?_
              obtain ⟨x466, hx467, h469⟩ := bind_some hj464
              obtain ⟨hi468, hx467'⟩ := Ay hx467
              obtain ⟨ae470_2, ne470_2, hc471, hbe470_2, hse470_2⟩ := (AR (hE43 _ _ hx467'))
              refine Di 3 hi468 ?_
              refine Dx 4 0 (fun _ hq => hq.1.1 _ _ ((((((le139.trans le149).trans le297).trans le322).trans le427).trans le440) _ _ hF42)) hc471 ?_
              refine D1 5 ?_
              obtain ⟨r472, hr473, h474⟩ := bind_some h469
              refine DCl Cl hw454 (C5 N wd453 F30 hw454.pers x126 ae130_2 ne130_2 hbe130_2 (R8 hse130_2 (((((le139.trans le149).trans le297).trans le322).trans le427).trans le440)) x466 ae470_2 ne470_2 hbe470_2 (R8 hse470_2 (((((le139.trans le149).trans le297).trans le322).trans le427).trans le440)) _ hr473) ?_
              rintro _ F32 w476 hs477 le478 rfl
              refine Dv [6] ?_
              obtain rfl := Aa h474
              exact Sm (by kernel_rfl) ⟨F32, hs477.dr1, le478, fI⟩
             ·rintro f w455 ⟨F31, hs456, le457, ⟨_, rfl⟩⟩
              refine Ac ?_
              refine Cd h465 (fun hb480 h481 => ?_) (fun hb480 h482 => ?_)
              ·refine Sq (Rg [0, 1] ?_)
               refine Ld hs456.at0 ?_
               refine St1 (Ae x126 ae130_2 ne130_2) hs456 (fun w483 hs484 => ?_)
               refine Nt ?_
               refine Rt ?_
               refine Ah ?_
               refine Ah ?_
               refine Af ?_
               obtain rfl := Aa h481
               exact ⟨rfl, (.agg (Ae x126 ae130_2 ne130_2)), Av (l := [.cell 2 33]) (by kernel_rfl) (vs := [(.agg (Ae x126 ae130_2 ne130_2))]) ⟨b24, 0, rfl, Ai (t := 33) (g := true) (s := 3) (by kernel_rfl) hs484.at1 rfl (by decide), trivial⟩, (.agg (Ae x126 ae130_2 ne130_2)), F31, rfl, hs484.clear, ⟨ae130_2, ne130_2, rfl, hbe130_2, (R8 hse130_2 ((((((le139.trans le149).trans le297).trans le322).trans le427).trans le440).trans le457))⟩⟩
              ·refine Sc ?_
               refine Ap ?_
               refine Ap ?_
               refine Ac ?_
               refine Sq (Rg [0, 1] ?_)
               refine Ld hs456.at2 ?_
               refine St1 (Ae x0 (some ⟨b36, o37, none⟩) n0_2) hs456 (fun w485 hs486 => ?_)
               refine Nt ?_
               refine Rt ?_
               obtain rfl := Aa h482
               exact ⟨rfl, (.agg (Ae x0 (some ⟨b36, o37, none⟩) n0_2)), Av (l := [.cell 2 33]) (by kernel_rfl) (vs := [(.agg (Ae x0 (some ⟨b36, o37, none⟩) n0_2))]) ⟨b24, 0, rfl, Ai (t := 33) (g := true) (s := 3) (by kernel_rfl) hs486.at1 rfl (by decide), trivial⟩, (.agg (Ae x0 (some ⟨b36, o37, none⟩) n0_2)), F31, rfl, hs486.clear, ⟨(some ⟨b36, o37, none⟩), n0_2, rfl, hb0_2, (R8 hs0_2 ((((((le139.trans le149).trans le297).trans le322).trans le427).trans le440).trans le457))⟩⟩
          ·refine Sc ?_
           refine Ap ?_
           refine Ac ?_
           refine Sq (Rg [0, 1] ?_)
           refine Ld hs321.at3 ?_
           refine St2 (Ae x0 (some ⟨b36, o37, none⟩) n0_2) hs321 (fun w487 hs488 => ?_)
           refine Nt ?_
           refine Rt ?_
           obtain rfl := Aa h420
           exact ⟨rfl, (.agg (Ae x0 (some ⟨b36, o37, none⟩) n0_2)), Av (l := [.cell 2 33]) (by kernel_rfl) (vs := [(.agg (Ae x0 (some ⟨b36, o37, none⟩) n0_2))]) ⟨b24, 0, rfl, Ai (t := 33) (g := true) (s := 3) (by kernel_rfl) hs488.at2 rfl (by decide), trivial⟩, (.agg (Ae x0 (some ⟨b36, o37, none⟩) n0_2)), F21, rfl, hs488.clear, ⟨(some ⟨b36, o37, none⟩), n0_2, rfl, hb0_2, (R8 hs0_2 (((le139.trans le149).trans le297).trans le322))⟩⟩
def Cz (N : Nat) (x0 : Int) : Option Expr :=
 some ({ Op := 1, Value := x0, Kids := ([] : List Expr) } : Expr)
def AY (N : Nat) (x0 : Bool) : Option Expr :=
 ((Cz N 0).bind fun r31 => ((Cz N 0).bind fun r39 => some ({ Op := (bif x0 then 6 else 7), Value := 0, Kids := [r31, r39] } : Expr)))
def FH (N : Nat) (x0 : Expr) (x1 : Expr) (x2 : Expr) : Option Expr :=
 ((AY N (x0.Op == 4)).bind fun r33 => ((AY N (x0.Op == 5)).bind fun r46 => (((AW N x1 r46).bind fun r73 => (bif r73 then some true else ((AW N x2 r46).bind fun r84 => some r84))).bind fun j62 => (bif j62 then some r46 else ((AW N x1 r33).bind fun r97 => (bif r97 then some x2 else (((AW N x2 r33).bind fun r121 => (bif r121 then some true else ((AW N x1 x2).bind fun r132 => some r132))).bind fun j113 => (bif j113 then some x1 else some x0))))))))
def B5 (N : Nat) (x0 : Expr) (x1 : Int) : Option Bool :=
 some ((x0.Op == 1) && (x0.Value == x1))
def EJ (N : Nat) (x0 : Expr) (x1 : Expr) (x2 : Expr) : Option Expr :=
 (bif ((x1.Op == 1) && (x2.Op == 1)) then ((Js N x0 ([] : List Int)).bind fun r46 => (bif (decide (r46 >= 0)) then ((Cz N r46).bind fun r57 => some r57) else some x0)) else (bif (x0.Op == 8) then ((B5 N x1 0).bind fun r72 => (bif r72 then some x2 else ((B5 N x2 0).bind fun r85 => (bif r85 then some x1 else some x0)))) else (bif (x0.Op == 9) then ((B5 N x2 0).bind fun r103 => (bif r103 then some x1 else ((AW N x1 x2).bind fun r116 => (bif r116 then ((Cz N 0).bind fun r127 => some r127) else some x0)))) else (bif (x0.Op == 10) then ((B5 N x1 1).bind fun r142 => (bif r142 then some x2 else ((B5 N x2 1).bind fun r155 => (bif r155 then some x1 else (((B5 N x1 0).bind fun r178 => (bif r178 then some true else ((B5 N x2 0).bind fun r189 => some r189))).bind fun j171 => (bif j171 then ((Cz N 0).bind fun r200 => some r200) else some x0)))))) else some x0))))
def AO (N : Nat) (x0 : Expr) : Option Expr :=
 (bif (x0.Op == 3) then ((idx x0.Kids 0).bind fun x30 => (((AY N true).bind fun r62 => ((AW N x30 r62).bind fun r70 => (bif r70 then some true else ((AY N false).bind fun r81 => ((AW N x30 r81).bind fun r89 => some r89))))).bind fun j54 => (bif j54 then (((AY N false).bind fun r110 => ((AW N x30 r110).bind fun r118 => ((AY N r118).bind fun r126 => some (r126.Op, r126.Value, r126.Kids)))).bind fun j105 => some ({ Op := j105.1, Value := j105.2.1, Kids := j105.2.2 } : Expr)) else (bif (x30.Op == 3) then ((idx x30.Kids 0).bind fun x139 => some x139) else some x0)))) else (bif (bif (x0.Op == 4) then (x0.Op == 4) else (x0.Op == 5)) then (((idx x0.Kids 0).bind fun x179 => ((idx x0.Kids 1).bind fun x193 => ((FH N x0 x179 x193).bind fun r199 => some (r199.Op, r199.Value, r199.Kids)))).bind fun j174 => some ({ Op := j174.1, Value := j174.2.1, Kids := j174.2.2 } : Expr)) else (bif (bif (x0.Op == 6) then (x0.Op == 6) else (x0.Op == 7)) then ((idx x0.Kids 0).bind fun x221 => ((idx x0.Kids 1).bind fun x240 => ((bif (x221.Op == 1) then (bif (x240.Op == 1) then some true else ((AW N x221 x240).bind fun r269 => some r269)) else ((AW N x221 x240).bind fun r277 => some r277)).bind fun j254 => (bif j254 then (((AW N x221 x240).bind fun r296 => (bif r296 then (bif (x0.Op == 6) then ((AY N true).bind fun r310 => some (r310.Op, r310.Value, r310.Kids)) else (bif (x221.Op == 1) then (bif (x240.Op == 1) then (bif (x0.Op == 7) then ((AY N (decide (x221.Value < x240.Value))).bind fun r329 => some (r329.Op, r329.Value, r329.Kids)) else ((AY N false).bind fun r339 => some (r339.Op, r339.Value, r339.Kids))) else ((AY N false).bind fun r349 => some (r349.Op, r349.Value, r349.Kids))) else ((AY N false).bind fun r359 => some (r359.Op, r359.Value, r359.Kids)))) else (bif (x221.Op == 1) then (bif (x240.Op == 1) then (bif (x0.Op == 7) then ((AY N (decide (x221.Value < x240.Value))).bind fun r378 => some (r378.Op, r378.Value, r378.Kids)) else ((AY N false).bind fun r388 => some (r388.Op, r388.Value, r388.Kids))) else ((AY N false).bind fun r398 => some (r398.Op, r398.Value, r398.Kids))) else ((AY N false).bind fun r408 => some (r408.Op, r408.Value, r408.Kids))))).bind fun j291 => some ({ Op := j291.1, Value := j291.2.1, Kids := j291.2.2 } : Expr)) else some x0)))) else (bif (bif (x0.Op == 8) then (x0.Op == 8) else (bif (x0.Op == 9) then (x0.Op == 9) else (x0.Op == 10))) then (((idx x0.Kids 0).bind fun x451 => ((idx x0.Kids 1).bind fun x465 => ((EJ N x0 x451 x465).bind fun r471 => some (r471.Op, r471.Value, r471.Kids)))).bind fun j446 => some ({ Op := j446.1, Value := j446.2.1, Kids := j446.2.2 } : Expr)) else (bif (x0.Op == 11) then (((idx x0.Kids 0).bind fun x496 => ((AY N true).bind fun r510 => ((AW N x496 r510).bind fun r518 => (bif r518 then some true else ((idx x0.Kids 1).bind fun x529 => ((idx x0.Kids 2).bind fun x535 => ((AW N x529 x535).bind fun r541 => some r541))))))).bind fun j489 => (bif j489 then ((idx x0.Kids 1).bind fun x552 => some x552) else (((idx x0.Kids 0).bind fun x580 => ((AY N false).bind fun r594 => ((AW N x580 r594).bind fun r602 => some r602))).bind fun j573 => (bif j573 then ((idx x0.Kids 2).bind fun x613 => some x613) else some x0)))) else some x0)))))
def upto (a b : Int) : List Int := (List.range (b + 1 - a).toNat).map fun k : Nat => a + (k : Int)
def QY : List Qt -> List (List Int)
 | [] => [[]]
 | s :: d => (upto s.Lo s.Hi).flatMap fun v => (QY d).map (v :: ·)
def box : List Qt -> List Int -> Prop
 | [], [] => True
 | s :: d, v :: f => (s.Lo <= v /\ v <= s.Hi) /\ box d f
 | _, _ => False
def HT (N : Nat) (x0 : Du) (x1 : (List Int)) : Option (Int × Int) :=
 ((Jo N x0 x1).bind fun r24 => (bif (r24 != 0) then some (0, r24) else ((Jp N x0.Points x1).bind fun r35 => (bif (decide (r35 < 0)) then some (0, 70) else ((idx x0.Points r35).bind fun x46 => ((CL N x46.Then x1).bind fun r60 => some (r60, 0)))))))
theorem JR : An Tryz.prog 41 := fun _ _ => by kernel_rfl
theorem KI (N : Nat) (w0 : World) (F0 : Mem) (hF : Sz w0 F0) (x0 : Du) (a0_0 : Sy) (n0_0 : Nat) (hb0_0 : LC x0.Points.length n0_0) (hs0_0 : SlA AB F0 a0_0 x0.Points) (a0_1 : Sy) (n0_1 : Nat) (hb0_1 : LC x0.Multipliers.length n0_1) (hs0_1 : SlA AB F0 a0_1 x0.Multipliers) (a0_2 : Sy) (n0_2 : Nat) (hb0_2 : LC x0.Penalties.length n0_2) (hs0_2 : SlA AB F0 a0_2 x0.Penalties) (a0_3 : Sy) (n0_3 : Nat) (hb0_3 : LC x0.Repeats.length n0_3) (hs0_3 : SlA Ao F0 a0_3 x0.Repeats) (x1 : (List Int)) (a1_0 : Sy) (n1_0 : Nat) (hb1_0 : LC x1.length n1_0) (hs1_0 : SlA Bu F0 a1_0 x1) (r : (Int × Int)) (h : HT N x0 x1 = some r) :
  Calls Tryz.prog 41 ([(.agg (Bx x0 a0_0 n0_0 a0_1 n0_1 a0_2 n0_2 a0_3 n0_3)), (.slice a1_0 x1.length n1_0)] : List Value).toArray w0 (AU w0 F0 fun F' v => v = (.tuple #[(vi r.1), (vi r.2)])) := by
 have hs0 := R7 hF
 refine Go 28 Tryz.func41 ?_
 refine Sq (Rg [0, 1, 2] ?_)
 refine Bx' 26 (Bx x0 a0_0 n0_0 a0_1 n0_1 a0_2 n0_2 a0_3 n0_3) hs0 (fun b21 w22 hs23 => ?_)
 refine Vs 2 ?_
 refine Nss ?_
 refine Sq (Rg [0, 1, 2, 3] ?_)
 refine Ld hs23.at0 ?_
 refine Vs 1 ?_
 obtain ⟨r24, hr25, h26⟩ := bind_some h
 refine Cl' Kw hs23 (K6 N w22 F0 hs23.pers x0 a0_0 n0_0 hb0_0 hs0_0 a0_1 n0_1 hb0_1 hs0_1 a0_2 n0_2 hb0_2 hs0_2 a0_3 n0_3 hb0_3 hs0_3 x1 a1_0 n1_0 hb1_0 hs1_0 _ hr25) ?_
 rintro _ F1 w28 hs29 le30 rfl
 refine Vs 1 ?_
 refine Nss (Rg [0, 1] ?_)
 refine Vs 2 ?_
 refine Nt ?_
 refine Cd h26 (fun hb32 h33 => ?_) (fun hb32 h34 => ?_)
 ·refine Sq (Rg [0, 1, 2] ?_)
  refine Vs 3 ?_
  refine Nt ?_
  refine Rt ?_
  refine Af ?_
  obtain rfl := Aa h33
  exact Re [(vi 0), (vi r24)] hs29 rfl
 ·refine Sc ?_
  refine Ac ?_
  refine Sq (Rg [0, 1, 2, 3, 4] ?_)
  refine Vs 1 ?_
  refine Ld hs29.at0 ?_
  refine Vs 1 ?_
  obtain ⟨r35, hr36, h37⟩ := bind_some h34
  refine Cl' Ky hs29 (K8 N w28 F1 hs29.pers x0.Points a0_0 n0_0 hb0_0 (R8 hs0_0 le30) x1 a1_0 n1_0 hb1_0 (R8 hs1_0 le30) _ hr36) ?_
  rintro _ F2 w39 hs40 le41 rfl
  refine Vs 1 ?_
  refine Nss ?_
  refine Sq (Rg [0, 1] ?_)
  refine Vs 2 ?_
  refine Nt ?_
  refine Cd h37 (fun hb43 h44 => ?_) (fun hb43 h45 => ?_)
  ·refine Sq (Rg [0, 1] ?_)
   refine Vs 2 ?_
   refine Nt ?_
   refine Rt ?_
   refine Af ?_
   obtain rfl := Aa h44
   exact Re [(vi 0), (vi 70)] hs40 rfl
  ·refine Sc ?_
   refine Ac ?_
   refine Sq (Rg [0, 1, 2, 3, 4, 5, 6, 7, 8, 9] ?_)
   refine Vs 1 ?_
   refine Ld hs40.at0 ?_
   refine Vs 1 ?_
   obtain ⟨x46, hx47, h49⟩ := bind_some h45
   obtain ⟨hi48, hx47'⟩ := Ay hx47
   obtain ⟨b50, o51, C52, E53, fz54, rfl, hF56, hE57⟩ := Sh (R8 hs0_0 (le30.trans le41)) hx47'
   obtain ⟨ae58_2, ne58_2, ae58_5, ne58_5, hc59, hbe58_2, hse58_2, hbe58_5, hse58_5⟩ := hE57 _ _ hx47'
   refine Ix hi48 ?_
   refine Vs 1 ?_
   refine Lx 3 (hs40.pers _ _ hF56) hc59 ?_
   refine Vs 1 ?_
   obtain ⟨r60, hr61, h62⟩ := bind_some h49
   refine Cl' CU hs40 (DY N w39 F2 hs40.pers x46.Then ae58_5 ne58_5 hbe58_5 hse58_5 x1 a1_0 n1_0 hb1_0 (R8 hs1_0 (le30.trans le41)) _ hr61) ?_
   rintro _ F3 w64 hs65 le66 rfl
   refine Vs 2 ?_
   refine Nt ?_
   refine Rt ?_
   obtain rfl := Aa h62
   exact Re [(vi r60), (vi 0)] hs65 rfl









section
variable {N : Nat} {f : List Int}
end








section
variable {N : Nat}
variable {σ : Type}
end














section
variable {N : Nat}
end
def NP (sR94 : Expr -> Option Expr) : Prop := ∀ (w0 : World) (F0 : Mem) (hF : Sz w0 F0) (x0 : Expr) (a0_2 : Sy) (n0_2 : Nat) (hb0_2 : LC x0.Kids.length n0_2) (hs0_2 : SlA Ao F0 a0_2 x0.Kids) (r : Expr), sR94 x0 = some r -> Calls Tryz.prog 94 ([(.agg #[(.int .i64 x0.Op), (.int .i64 x0.Value), (.slice a0_2 x0.Kids.length n0_2)])] : List Value).toArray w0 (AU w0 F0 fun F' v => ∃ (aq0_2 : Sy) (nq0_2 : Nat), v = (.agg #[(.int .i64 r.Op), (.int .i64 r.Value), (.slice aq0_2 r.Kids.length nq0_2)]) /\ LC r.Kids.length nq0_2 /\ SlA Ao F' aq0_2 r.Kids)
theorem Er : An Tryz.prog 94 := fun _ _ => by kernel_rfl
def BO (N : Nat) (sR94 : Expr -> Option Expr) (x0 : Expr) : (Int × List Expr) -> Option (BX Expr (Int × List Expr)) := fun s37 =>
 (bif (decide (s37.1 < (x0.Kids.length : Int))) then ((idx x0.Kids s37.1).bind fun x63 => (((sR94 x63).bind fun r96 => ((EQ s37.2 [r96]).bind fun r109 => some r109)).bind fun j87 => some (.next ((W64 (s37.1 + 1)), j87)))) else some (.done (s37.1, s37.2)))
def Cy (N : Nat) (sR94 : Expr -> Option Expr) (x0 : Expr) : Option Expr :=
 ((Br (BO N sR94 x0) N (0, ([] : List Expr))).bind fun o => o.k (fun r => some r) (fun s47 => ((AD N ({ Op := x0.Op, Value := x0.Value, Kids := s47.2 } : Expr)).bind fun r127 => some r127)))
theorem Hc (N : Nat) (sR94 : Expr -> Option Expr) (hsR94 : NP sR94) (w0 : World) (F0 : Mem) (hF : Sz w0 F0) (x0 : Expr) (a0_2 : Sy) (n0_2 : Nat) (hb0_2 : LC x0.Kids.length n0_2) (hs0_2 : SlA Ao F0 a0_2 x0.Kids) (r : Expr) (h : Cy N sR94 x0 = some r) :
  Calls Tryz.prog 94 ([(.agg (Ae x0 a0_2 n0_2))] : List Value).toArray w0 (AU w0 F0 fun F' v => ∃ (aq0_2 : Sy) (nq0_2 : Nat), v = (.agg (Ae r aq0_2 nq0_2)) /\ LC r.Kids.length nq0_2 /\ SlA Ao F' aq0_2 r.Kids) := by
 have hs0 := R7 hF
 refine Go 28 Tryz.func94 ?_
 refine Sq (Rg [0, 1] ?_)
 refine Bx' 33 (Ae x0 a0_2 n0_2) hs0 (fun b21 w22 hs23 => ?_)
 refine Al' 33 #[(vi 0), (vi 0), (.slice none ([] : List Expr).length 0)] hs23 (fun b24 w25 hs26 => ?_)
 refine Nss (Rg [0, 1, 2, 3, 4, 5, 6] ?_)
 refine Vs 1 ?_
 refine Ld hs26.at1 ?_
 refine Vs 1 ?_
 refine Ld hs26.at1 ?_
 refine Vs 1 ?_
 refine Al' 33 #[(vi 0), (vi 0), (.slice none ([] : List Expr).length 0)] hs26 (fun b27 w28 hs29 => ?_)
 refine St0 #[(vi x0.Op), (vi x0.Value), (.slice none ([] : List Expr).length 0)] hs29 (fun w30 hs31 => ?_)
 refine Nss ?_
 refine Sq (Rg [0, 1, 2, 3] ?_)
 refine Vs 1 ?_
 refine Ld hs31.at2 ?_
 refine Vs 2 ?_
 refine Nt ?_
 have hs32 := hs31.dr2.dummy (oc #[] 0)
 obtain ⟨o34, ho35, h36⟩ := bind_some h
 refine Se (fun f w => ∃ (s47 : (Int × List Expr)) (F2 : Mem) (as47_1 : Sy) (ns47_1 : Nat) (es47_1 : Option Nat × Obj), o34 = .done s47 /\ HS w0 F0 w F2 [es47_1, (sb b27 #[(vi x0.Op), (vi x0.Value), (.slice as47_1 s47.2.length ns47_1)] 33), (sb b24 #[(vi 0), (vi 0), (.slice none ([] : List Expr).length 0)] 33)] /\ R5 F0 F2 /\ FI f [] [(2, (pt b24 0)), (3, (pt b27 0))] /\ Au Ao 33 F2 as47_1 ns47_1 s47.2 es47_1) ?_ ?_
 ·refine Bk ?_
  refine R4 (by kernel_rfl) (fun m f w => ∃ (s37 : (Int × List Expr)) (F1 : Mem) (as37_1 : Sy) (ns37_1 : Nat) (es37_1 : Option Nat × Obj), Br (BO N sR94 x0) m s37 = some o34 /\ HS w0 F0 w F1 [es37_1, (sb b27 #[(vi x0.Op), (vi x0.Value), (.slice as37_1 s37.2.length ns37_1)] 33), (sb b24 #[(vi 0), (vi 0), (.slice none ([] : List Expr).length 0)] 33)] /\ R5 F0 F1 /\ FI f [] [(2, (pt b24 0)), (3, (pt b27 0)), (12, (.slice a0_2 x0.Kids.length n0_2)), (13, (vi (x0.Kids.length : Int))), (14, (vi s37.1))] /\ Au Ao 33 F1 as37_1 ns37_1 s37.2 es37_1) N ⟨(0, ([] : List Expr)), F0, none, 0, (none, .cells #[] 0 (0, 0)), ho35, hs32, (R6 _), fI, (So Ao 33 F0 _)⟩ ?_
  rintro m54 f w38 ⟨s37, F1, as37_1, ns37_1, es37_1, hit55, hs39, le40, ⟨_, rfl⟩, hrs37_1⟩
  obtain ⟨m56, fl57, rfl, hb58, hnx59⟩ := A7 hit55
  refine Sq (Rg [0] ?_)
  refine Vs 1 ?_
  refine Nss ?_
  refine Cd hb58 (fun hb60 h61 => ?_) (fun hb60 h62 => ?_)
  ·refine Sc ?_
   refine Ac ?_
   refine Sq ?_
   refine Bk ?_
   refine Sq (Rg [0, 1, 2, 3] ?_)
   obtain ⟨x63, hx64, h66⟩ := bind_some h61
   obtain ⟨hi65, hx64'⟩ := Ay hx64
   obtain ⟨b67, o68, C69, E70, fz71, rfl, hF73, hE74⟩ := Sh (R8 hs0_2 le40) hx64'
   obtain ⟨ae75_2, ne75_2, hc76, hbe75_2, hse75_2⟩ := (AR (hE74 _ _ hx64'))
   refine Ix hi65 ?_
   refine Lx 0 (hs39.pers _ _ hF73) hc76 ?_
   refine Al' 33 #[(vi 0), (vi 0), (.slice none ([] : List Expr).length 0)] hs39 (fun b77 w78 hs79 => ?_)
   refine St0 (Ae x63 ae75_2 ne75_2) hs79 (fun w80 hs81 => ?_)
   refine Nt ?_
   obtain ⟨j87, hj94, h95⟩ := bind_some h66
   refine RD 7 8 [(sb b77 (Ae x63 ae75_2 ne75_2) 33), (sb b24 #[(vi 0), (vi 0), (.slice none ([] : List Expr).length 0)] 33)] [(sb b27 #[(vi x0.Op), (vi x0.Value), (.slice as37_1 s37.2.length ns37_1)] 33)] hs81 (fun f w => ∃ (F3 : Mem) (aj87_0 : Sy) (nj87_0 : Nat) (ej87_0 : Option Nat × Obj), HS w0 F0 w F3 [ej87_0, (sb b27 #[(vi x0.Op), (vi x0.Value), (.slice aj87_0 j87.length nj87_0)] 33), (sb b24 #[(vi 0), (vi 0), (.slice none ([] : List Expr).length 0)] 33)] /\ R5 F1 F3 /\ FI f [] [(2, (pt b24 0)), (3, (pt b27 0)), (12, (.slice (some ⟨b67, o68, none⟩) x0.Kids.length n0_2)), (13, (vi (x0.Kids.length : Int))), (14, (vi s37.1))] /\ Au Ao 33 F3 aj87_0 nj87_0 j87 ej87_0) (fun wd82 hw83 => ?_) ?_
   ·refine Dv [0] ?_
    refine Dl 1 (fun _ hq => ((hq.2 rfl).2 0 _ _ rfl)) ?_
    refine Dl 2 (fun _ hq => (hq.1.2 0 _ _ rfl)) ?_
    refine D1 3 ?_
    obtain ⟨r96, hr97, h98⟩ := bind_some hj94
    refine DCl Er hw83 (hsR94 wd82 F1 hw83.pers x63 ae75_2 ne75_2 hbe75_2 hse75_2 _ hr97) ?_
    rintro _ F4 w100 hs101 le102 ⟨ar96_0_2, nr96_0_2, rfl, hbr96_0_2, hsr96_0_2⟩
    refine D1 4 ?_
    refine DBs 33 [(vi r96.Op), (vi r96.Value), (.slice ar96_0_2 r96.Kids.length nr96_0_2)] hs101 le102 (fun b104 w105 hs106 => ?_)
    have hr108 : Au Ao 33 F4 (some ⟨b104, 0, none⟩) 1 [r96] (some b104, .cells ([(vi r96.Op), (vi r96.Value), (.slice ar96_0_2 r96.Kids.length nr96_0_2)] : List Value).toArray 33 (0, 0)) := Sr ⟨(A6 ⟨ar96_0_2, nr96_0_2, rfl, hbr96_0_2, hsr96_0_2⟩), rfl⟩ (by simp)
    refine D1 5 ?_
    obtain ⟨r109, hap110, h111⟩ := bind_some h98
    refine RW Pj hs106 (hrs37_1.mono le102) (hs106.rd0 hr108) hap110 le102 (fun a112 n113 e114 w115 hs116 hr117 => ?_)
    refine Dv [6] ?_
    refine D1 7 ?_
    refine Q6 #[(vi x0.Op), (vi x0.Value), (.slice a112 r109.length n113)] hs116 le102 (fun w118 hs119 => ?_)
    obtain rfl := Aa h111
    exact Sm (by kernel_rfl) ⟨F4, a112, n113, e114, hs119.dr0.dr0, le102, fI, hr117⟩
   ·rintro f w84 ⟨F3, aj87_0, nj87_0, ej87_0, hs85, le86, ⟨_, rfl⟩, hrj87_0⟩
    refine Ap ?_
    refine Ac ?_
    refine Rg [0, 1] ?_
    refine Vs 2 ?_
    refine RY ?_
    have hn120 := A0 h95 hnx59
    exact ⟨m56, Nat.lt_succ_self _, ((W64 (s37.1 + 1)), j87), F3, aj87_0, nj87_0, ej87_0, hn120, hs85, (le40.trans le86), fI, hrj87_0⟩
  ·refine Ex ?_
   refine AC ?_
   refine AC ?_
   refine AV rfl ?_
   have ho121 := Bd h62 hnx59
   exact .inl ⟨rfl, (s37.1, s37.2), F1, as37_1, ns37_1, es37_1, ho121, hs39, le40, fI, hrs37_1⟩
 ·rintro f w48 ⟨s47, F2, as47_1, ns47_1, es47_1, rfl, hs49, le50, ⟨_, rfl⟩, hrs47_1⟩
  have h122 := Cu h36
  refine Ac ?_
  refine Sq (Rg [0, 1, 2] ?_)
  refine Ld hs49.at1 ?_
  have hb126 := Sn hrs47_1
  obtain ⟨F5, hs123, le124, hs125⟩ := hs49.fr0 hrs47_1
  obtain ⟨r127, hr128, h129⟩ := bind_some h122
  refine Cl' I9 hs123 (JU N w48 F5 hs123.pers (({ Op := x0.Op, Value := x0.Value, Kids := s47.2 } : Expr)) as47_1 ns47_1 hb126 hs125 _ hr128) ?_
  rintro _ F6 w131 hs132 le133 ⟨ar127_0_2, nr127_0_2, rfl, hbr127_0_2, hsr127_0_2⟩
  refine St1 (Ae r127 ar127_0_2 nr127_0_2) hs132 (fun w135 hs136 => ?_)
  refine Nt ?_
  refine Rt ?_
  obtain rfl := Aa h129
  exact ⟨rfl, (.agg (Ae r127 ar127_0_2 nr127_0_2)), Av (l := [.cell 2 33]) (by kernel_rfl) (vs := [(.agg (Ae r127 ar127_0_2 nr127_0_2))]) ⟨b24, 0, rfl, Ai (t := 33) (g := true) (s := 3) (by kernel_rfl) hs136.at1 rfl (by decide), trivial⟩, (.agg (Ae r127 ar127_0_2 nr127_0_2)), F6, rfl, hs136.clear, ⟨ar127_0_2, nr127_0_2, rfl, hbr127_0_2, hsr127_0_2⟩⟩
structure Ry where
 q94 : Expr -> Option Expr
def Fu (N : Nat) : Nat -> Ry
 | 0 => ⟨fun _ => none⟩
 | k + 1 => ⟨Cy N (Fu N k).q94⟩
theorem MF (N : Nat) : ∀ k, NP (Fu N k).q94
 | 0 => (by unfold NP; intros; rename_i h; cases h)
 | k + 1 => by
  have ih := MF N k
  exact @Hc N (Fu N k).q94 ih
def CY (N : Nat) (x0 : Expr) : Option Expr := (Fu N N).q94 x0
theorem HG (N : Nat) (w0 : World) (F0 : Mem) (hF : Sz w0 F0) (x0 : Expr) (a0_2 : Sy) (n0_2 : Nat) (hb0_2 : LC x0.Kids.length n0_2) (hs0_2 : SlA Ao F0 a0_2 x0.Kids) (r : Expr) (h : CY N x0 = some r) :
  Calls Tryz.prog 94 ([(.agg #[(.int .i64 x0.Op), (.int .i64 x0.Value), (.slice a0_2 x0.Kids.length n0_2)])] : List Value).toArray w0 (AU w0 F0 fun F' v => ∃ (aq0_2 : Sy) (nq0_2 : Nat), v = (.agg #[(.int .i64 r.Op), (.int .i64 r.Value), (.slice aq0_2 r.Kids.length nq0_2)]) /\ LC r.Kids.length nq0_2 /\ SlA Ao F' aq0_2 r.Kids) := (MF N N) w0 F0 hF x0 a0_2 n0_2 hb0_2 hs0_2 r h
def BE (N : Nat) (x0 : Expr) : Option (Expr × Int) :=
 ((CM N x0).bind fun r27 => (bif (!r27) then some (({ Op := 0, Value := 0, Kids := ([] : List Expr) } : Expr), 61) else ((CY N x0).bind fun r40 => some (r40, 0))))
theorem DC : An Tryz.prog 30 := fun _ _ => by kernel_rfl
theorem DQ (N : Nat) (w0 : World) (F0 : Mem) (hF : Sz w0 F0) (x0 : Expr) (a0_2 : Sy) (n0_2 : Nat) (hb0_2 : LC x0.Kids.length n0_2) (hs0_2 : SlA Ao F0 a0_2 x0.Kids) (r : (Expr × Int)) (h : BE N x0 = some r) :
  Calls Tryz.prog 30 ([(.agg (Ae x0 a0_2 n0_2))] : List Value).toArray w0 (AU w0 F0 fun F' v => ∃ (aq0_2 : Sy) (nq0_2 : Nat), v = (.tuple #[(.agg (Ae r.1 aq0_2 nq0_2)), (vi r.2)]) /\ LC r.1.Kids.length nq0_2 /\ SlA Ao F' aq0_2 r.1.Kids) := by
 have hs0 := R7 hF
 refine Go 10 Tryz.func30 ?_
 refine Sq (Rg [0, 1, 2] ?_)
 refine Bx' 33 (Ae x0 a0_2 n0_2) hs0 (fun b21 w22 hs23 => ?_)
 refine Al' 33 #[(vi 0), (vi 0), (.slice none ([] : List Expr).length 0)] hs23 (fun b24 w25 hs26 => ?_)
 refine Vs 1 ?_
 refine Nss ?_
 refine Sq (Rg [0, 1, 2] ?_)
 refine Ld hs26.at1 ?_
 obtain ⟨r27, hr28, h29⟩ := bind_some h
 refine Cl' DB hs26 (D0 N w25 F0 hs26.pers x0 a0_2 n0_2 hb0_2 hs0_2 _ hr28) ?_
 rintro _ F1 w31 hs32 le33 rfl
 refine Vs 1 ?_
 refine Nt ?_
 refine Cd h29 (fun hb35 h36 => ?_) (fun hb35 h37 => ?_)
 ·refine Sq (Rg [0, 1, 2] ?_)
  refine Vs 1 ?_
  refine St0 #[(vi 0), (vi 0), (.slice none ([] : List Expr).length 0)] hs32 (fun w38 hs39 => ?_)
  refine Vs 1 ?_
  refine Nt ?_
  refine Rt ?_
  refine Af ?_
  obtain rfl := Aa h36
  exact ⟨rfl, (.tuple #[(.agg #[(vi 0), (vi 0), (.slice none ([] : List Expr).length 0)]), (vi 61)]), Av (l := [.cell 2 33, .tmp 3]) (by kernel_rfl) (vs := [(.agg #[(vi 0), (vi 0), (.slice none ([] : List Expr).length 0)]), (vi 61)]) ⟨b24, 0, rfl, Ai (t := 33) (g := true) (s := 3) (by kernel_rfl) hs39.at0 rfl (by decide), ⟨rfl, trivial⟩⟩, (.tuple #[(.agg #[(vi 0), (vi 0), (.slice none ([] : List Expr).length 0)]), (vi 61)]), F1, rfl, hs39.clear, ⟨none, 0, rfl, R9, (.inl rfl)⟩⟩
 ·refine Sc ?_
  refine Ac ?_
  refine Sq (Rg [0, 1, 2, 3] ?_)
  refine Ld hs32.at1 ?_
  obtain ⟨r40, hr41, h42⟩ := bind_some h37
  refine Cl' Er hs32 (HG N w31 F1 hs32.pers x0 a0_2 n0_2 hb0_2 (R8 hs0_2 le33) _ hr41) ?_
  rintro _ F2 w44 hs45 le46 ⟨ar40_0_2, nr40_0_2, rfl, hbr40_0_2, hsr40_0_2⟩
  refine St0 (Ae r40 ar40_0_2 nr40_0_2) hs45 (fun w48 hs49 => ?_)
  refine Vs 1 ?_
  refine Nt ?_
  refine Rt ?_
  obtain rfl := Aa h42
  exact ⟨rfl, (.tuple #[(.agg (Ae r40 ar40_0_2 nr40_0_2)), (vi 0)]), Av (l := [.cell 2 33, .tmp 3]) (by kernel_rfl) (vs := [(.agg (Ae r40 ar40_0_2 nr40_0_2)), (vi 0)]) ⟨b24, 0, rfl, Ai (t := 33) (g := true) (s := 3) (by kernel_rfl) hs49.at0 rfl (by decide), ⟨rfl, trivial⟩⟩, (.tuple #[(.agg (Ae r40 ar40_0_2 nr40_0_2)), (vi 0)]), F2, rfl, hs49.clear, ⟨ar40_0_2, nr40_0_2, rfl, hbr40_0_2, hsr40_0_2⟩⟩
def HQ (N : Nat) (x0 : Int) : Option (B2 × Bool) :=
 (bif (x0 == 5) then some (({ text_ := ([111, 114] : Sx), rank_ := 1, left_ := 1, right_ := 2 } : B2), true) else (bif (x0 == 4) then some (({ text_ := ([97, 110, 100] : Sx), rank_ := 2, left_ := 2, right_ := 3 } : B2), true) else (bif (x0 == 6) then some (({ text_ := ([61] : Sx), rank_ := 4, left_ := 5, right_ := 5 } : B2), true) else (bif (x0 == 7) then some (({ text_ := ([60] : Sx), rank_ := 4, left_ := 5, right_ := 5 } : B2), true) else (bif (x0 == 8) then some (({ text_ := ([43] : Sx), rank_ := 5, left_ := 5, right_ := 6 } : B2), true) else (bif (x0 == 9) then some (({ text_ := ([45] : Sx), rank_ := 5, left_ := 5, right_ := 6 } : B2), true) else (bif (x0 == 10) then some (({ text_ := ([42] : Sx), rank_ := 6, left_ := 6, right_ := 7 } : B2), true) else some (({ text_ := ([] : Sx), rank_ := 0, left_ := 0, right_ := 0 } : B2), false))))))))
theorem JO : An Tryz.prog 150 := fun _ _ => by kernel_rfl
theorem KF (N : Nat) (w0 : World) (F0 : Mem) (hF : Sz w0 F0) (x0 : Int) (r : (B2 × Bool)) (h : HQ N x0 = some r) :
  Calls Tryz.prog 150 ([(vi x0)] : List Value).toArray w0 (AU w0 F0 fun F' v => v = (.tuple #[(.agg (E0 r.1)), (.bool r.2)])) := by
 have hs0 := R7 hF
 refine Go 27 Tryz.func150 ?_
 refine Sq (Rg [0, 1] ?_)
 refine Al' 173 #[(.string ⟨(([] : Sx)).toArray⟩), (vi 0), (vi 0), (vi 0)] hs0 (fun b21 w22 hs23 => ?_)
 refine Vs 1 ?_
 refine Nss ?_
 refine Sq (Rg [0] ?_)
 refine Vs 1 ?_
 refine Nt ?_
 refine Bk ?_
 refine Sq (Rg [0, 1] ?_)
 refine Vs 2 ?_
 refine Nt ?_
 refine Cd h (fun hb24 h25 => ?_) (fun hb24 h26 => ?_)
 ·refine Sq (Rg [0, 1, 2] ?_)
  refine Vs 1 ?_
  refine St0 #[(.string ⟨(([111, 114] : Sx)).toArray⟩), (vi 1), (vi 1), (vi 2)] hs23 (fun w27 hs28 => ?_)
  refine Vs 1 ?_
  refine Nt ?_
  refine Rt ?_
  refine Ah ?_
  refine Af ?_
  obtain rfl := Aa h25
  exact ⟨rfl, (.tuple #[(.agg #[(.string ⟨(([111, 114] : Sx)).toArray⟩), (vi 1), (vi 1), (vi 2)]), (.bool true)]), Av (l := [.cell 2 173, .tmp 3]) (by kernel_rfl) (vs := [(.agg #[(.string ⟨(([111, 114] : Sx)).toArray⟩), (vi 1), (vi 1), (vi 2)]), (.bool true)]) ⟨b21, 0, rfl, Ai (t := 173) (g := true) (s := 4) (by kernel_rfl) hs28.at0 rfl (by decide), ⟨rfl, trivial⟩⟩, (.tuple #[(.agg #[(.string ⟨(([111, 114] : Sx)).toArray⟩), (vi 1), (vi 1), (vi 2)]), (.bool true)]), F0, rfl, hs28.clear, rfl⟩
 ·refine Sq (Rg [0, 1] ?_)
  refine Vs 2 ?_
  refine Nt ?_
  refine Cd h26 (fun hb29 h30 => ?_) (fun hb29 h31 => ?_)
  ·refine Sq (Rg [0, 1, 2] ?_)
   refine Vs 1 ?_
   refine St0 #[(.string ⟨(([97, 110, 100] : Sx)).toArray⟩), (vi 2), (vi 2), (vi 3)] hs23 (fun w32 hs33 => ?_)
   refine Vs 1 ?_
   refine Nt ?_
   refine Rt ?_
   refine Ah ?_
   refine Af ?_
   obtain rfl := Aa h30
   exact ⟨rfl, (.tuple #[(.agg #[(.string ⟨(([97, 110, 100] : Sx)).toArray⟩), (vi 2), (vi 2), (vi 3)]), (.bool true)]), Av (l := [.cell 2 173, .tmp 3]) (by kernel_rfl) (vs := [(.agg #[(.string ⟨(([97, 110, 100] : Sx)).toArray⟩), (vi 2), (vi 2), (vi 3)]), (.bool true)]) ⟨b21, 0, rfl, Ai (t := 173) (g := true) (s := 4) (by kernel_rfl) hs33.at0 rfl (by decide), ⟨rfl, trivial⟩⟩, (.tuple #[(.agg #[(.string ⟨(([97, 110, 100] : Sx)).toArray⟩), (vi 2), (vi 2), (vi 3)]), (.bool true)]), F0, rfl, hs33.clear, rfl⟩
  ·refine Sq (Rg [0, 1] ?_)
   refine Vs 2 ?_
   refine Nt ?_
   refine Cd h31 (fun hb34 h35 => ?_) (fun hb34 h36 => ?_)
   ·refine Sq (Rg [0, 1, 2] ?_)
    refine Vs 1 ?_
    refine St0 #[(.string ⟨(([61] : Sx)).toArray⟩), (vi 4), (vi 5), (vi 5)] hs23 (fun w37 hs38 => ?_)
    refine Vs 1 ?_
    refine Nt ?_
    refine Rt ?_
    refine Ah ?_
    refine Af ?_
    obtain rfl := Aa h35
    exact ⟨rfl, (.tuple #[(.agg #[(.string ⟨(([61] : Sx)).toArray⟩), (vi 4), (vi 5), (vi 5)]), (.bool true)]), Av (l := [.cell 2 173, .tmp 3]) (by kernel_rfl) (vs := [(.agg #[(.string ⟨(([61] : Sx)).toArray⟩), (vi 4), (vi 5), (vi 5)]), (.bool true)]) ⟨b21, 0, rfl, Ai (t := 173) (g := true) (s := 4) (by kernel_rfl) hs38.at0 rfl (by decide), ⟨rfl, trivial⟩⟩, (.tuple #[(.agg #[(.string ⟨(([61] : Sx)).toArray⟩), (vi 4), (vi 5), (vi 5)]), (.bool true)]), F0, rfl, hs38.clear, rfl⟩
   ·refine Sq (Rg [0, 1] ?_)
    refine Vs 2 ?_
    refine Nt ?_
    refine Cd h36 (fun hb39 h40 => ?_) (fun hb39 h41 => ?_)
    ·refine Sq (Rg [0, 1, 2] ?_)
     refine Vs 1 ?_
     refine St0 #[(.string ⟨(([60] : Sx)).toArray⟩), (vi 4), (vi 5), (vi 5)] hs23 (fun w42 hs43 => ?_)
     refine Vs 1 ?_
     refine Nt ?_
     refine Rt ?_
     refine Ah ?_
     refine Af ?_
     obtain rfl := Aa h40
     exact ⟨rfl, (.tuple #[(.agg #[(.string ⟨(([60] : Sx)).toArray⟩), (vi 4), (vi 5), (vi 5)]), (.bool true)]), Av (l := [.cell 2 173, .tmp 3]) (by kernel_rfl) (vs := [(.agg #[(.string ⟨(([60] : Sx)).toArray⟩), (vi 4), (vi 5), (vi 5)]), (.bool true)]) ⟨b21, 0, rfl, Ai (t := 173) (g := true) (s := 4) (by kernel_rfl) hs43.at0 rfl (by decide), ⟨rfl, trivial⟩⟩, (.tuple #[(.agg #[(.string ⟨(([60] : Sx)).toArray⟩), (vi 4), (vi 5), (vi 5)]), (.bool true)]), F0, rfl, hs43.clear, rfl⟩
    ·refine Sq (Rg [0, 1] ?_)
     refine Vs 2 ?_
     refine Nt ?_
     refine Cd h41 (fun hb44 h45 => ?_) (fun hb44 h46 => ?_)
     ·refine Sq (Rg [0, 1, 2] ?_)
      refine Vs 1 ?_
      refine St0 #[(.string ⟨(([43] : Sx)).toArray⟩), (vi 5), (vi 5), (vi 6)] hs23 (fun w47 hs48 => ?_)
      refine Vs 1 ?_
      refine Nt ?_
      refine Rt ?_
      refine Ah ?_
      refine Af ?_
      obtain rfl := Aa h45
      exact ⟨rfl, (.tuple #[(.agg #[(.string ⟨(([43] : Sx)).toArray⟩), (vi 5), (vi 5), (vi 6)]), (.bool true)]), Av (l := [.cell 2 173, .tmp 3]) (by kernel_rfl) (vs := [(.agg #[(.string ⟨(([43] : Sx)).toArray⟩), (vi 5), (vi 5), (vi 6)]), (.bool true)]) ⟨b21, 0, rfl, Ai (t := 173) (g := true) (s := 4) (by kernel_rfl) hs48.at0 rfl (by decide), ⟨rfl, trivial⟩⟩, (.tuple #[(.agg #[(.string ⟨(([43] : Sx)).toArray⟩), (vi 5), (vi 5), (vi 6)]), (.bool true)]), F0, rfl, hs48.clear, rfl⟩
     ·refine Sq (Rg [0, 1] ?_)
      refine Vs 2 ?_
      refine Nt ?_
      refine Cd h46 (fun hb49 h50 => ?_) (fun hb49 h51 => ?_)
      ·refine Sq (Rg [0, 1, 2] ?_)
       refine Vs 1 ?_
       refine St0 #[(.string ⟨(([45] : Sx)).toArray⟩), (vi 5), (vi 5), (vi 6)] hs23 (fun w52 hs53 => ?_)
       refine Vs 1 ?_
       refine Nt ?_
       refine Rt ?_
       refine Ah ?_
       refine Af ?_
       obtain rfl := Aa h50
       exact ⟨rfl, (.tuple #[(.agg #[(.string ⟨(([45] : Sx)).toArray⟩), (vi 5), (vi 5), (vi 6)]), (.bool true)]), Av (l := [.cell 2 173, .tmp 3]) (by kernel_rfl) (vs := [(.agg #[(.string ⟨(([45] : Sx)).toArray⟩), (vi 5), (vi 5), (vi 6)]), (.bool true)]) ⟨b21, 0, rfl, Ai (t := 173) (g := true) (s := 4) (by kernel_rfl) hs53.at0 rfl (by decide), ⟨rfl, trivial⟩⟩, (.tuple #[(.agg #[(.string ⟨(([45] : Sx)).toArray⟩), (vi 5), (vi 5), (vi 6)]), (.bool true)]), F0, rfl, hs53.clear, rfl⟩
      ·refine Sq (Rg [0, 1] ?_)
       refine Vs 2 ?_
       refine Nt ?_
       refine Cd h51 (fun hb54 h55 => ?_) (fun hb54 h56 => ?_)
       ·refine Sq (Rg [0, 1, 2] ?_)
        refine Vs 1 ?_
        refine St0 #[(.string ⟨(([42] : Sx)).toArray⟩), (vi 6), (vi 6), (vi 7)] hs23 (fun w57 hs58 => ?_)
        refine Vs 1 ?_
        refine Nt ?_
        refine Rt ?_
        refine Ah ?_
        refine Af ?_
        obtain rfl := Aa h55
        exact ⟨rfl, (.tuple #[(.agg #[(.string ⟨(([42] : Sx)).toArray⟩), (vi 6), (vi 6), (vi 7)]), (.bool true)]), Av (l := [.cell 2 173, .tmp 3]) (by kernel_rfl) (vs := [(.agg #[(.string ⟨(([42] : Sx)).toArray⟩), (vi 6), (vi 6), (vi 7)]), (.bool true)]) ⟨b21, 0, rfl, Ai (t := 173) (g := true) (s := 4) (by kernel_rfl) hs58.at0 rfl (by decide), ⟨rfl, trivial⟩⟩, (.tuple #[(.agg #[(.string ⟨(([42] : Sx)).toArray⟩), (vi 6), (vi 6), (vi 7)]), (.bool true)]), F0, rfl, hs58.clear, rfl⟩
       ·refine Sc ?_
        refine Ap ?_
        refine Ac ?_
        refine Sq (Rg [0, 1, 2] ?_)
        refine Vs 1 ?_
        refine St0 #[(.string ⟨(([] : Sx)).toArray⟩), (vi 0), (vi 0), (vi 0)] hs23 (fun w59 hs60 => ?_)
        refine Vs 1 ?_
        refine Nt ?_
        refine Rt ?_
        obtain rfl := Aa h56
        exact ⟨rfl, (.tuple #[(.agg #[(.string ⟨(([] : Sx)).toArray⟩), (vi 0), (vi 0), (vi 0)]), (.bool false)]), Av (l := [.cell 2 173, .tmp 3]) (by kernel_rfl) (vs := [(.agg #[(.string ⟨(([] : Sx)).toArray⟩), (vi 0), (vi 0), (vi 0)]), (.bool false)]) ⟨b21, 0, rfl, Ai (t := 173) (g := true) (s := 4) (by kernel_rfl) hs60.at0 rfl (by decide), ⟨rfl, trivial⟩⟩, (.tuple #[(.agg #[(.string ⟨(([] : Sx)).toArray⟩), (vi 0), (vi 0), (vi 0)]), (.bool false)]), F0, rfl, hs60.clear, rfl⟩
def Gh (N : Nat)  : Option (List Sx) :=
 some [([98, 97, 110, 100] : Sx), ([109, 111, 100, 101] : Sx), ([104, 111, 117, 114] : Sx), ([109, 121, 99, 111, 117, 110, 116, 114, 121] : Sx), ([109, 121, 122, 111, 110, 101] : Sx), ([109, 121, 99, 111, 110, 116, 105, 110, 101, 110, 116] : Sx), ([99, 111, 117, 110, 116, 114, 121] : Sx), ([122, 111, 110, 101] : Sx), ([99, 111, 110, 116, 105, 110, 101, 110, 116] : Sx), ([99, 97, 108, 108] : Sx), ([103, 111, 116, 122, 111, 110, 101] : Sx), ([99, 97, 116, 101, 103, 111, 114, 121] : Sx), ([112, 111, 119, 101, 114] : Sx), ([115, 116, 97, 116, 117, 115] : Sx)]
theorem GG : An Tryz.prog 152 := fun _ _ => by kernel_rfl
theorem Hw (N : Nat) (w0 : World) (F0 : Mem) (hF : Sz w0 F0)  (r : (List Sx)) (h : Gh N  = some r) :
  Calls Tryz.prog 152 ([] : List Value).toArray w0 (AU w0 F0 fun F' v => ∃ (aq0_0 : Sy) (nq0_0 : Nat), v = (.slice aq0_0 r.length nq0_0) /\ LC r.length nq0_0 /\ SlA Fk F' aq0_0 r) := by
 have hs0 := R7 hF
 refine Go 2 Tryz.func152 ?_
 refine Sq (Rg [0] ?_)
 refine Vs 1 ?_
 refine Nss (Rg [0, 1] ?_)
 refine Bs 9 [(.string ⟨(([98, 97, 110, 100] : Sx)).toArray⟩), (.string ⟨(([109, 111, 100, 101] : Sx)).toArray⟩), (.string ⟨(([104, 111, 117, 114] : Sx)).toArray⟩), (.string ⟨(([109, 121, 99, 111, 117, 110, 116, 114, 121] : Sx)).toArray⟩), (.string ⟨(([109, 121, 122, 111, 110, 101] : Sx)).toArray⟩), (.string ⟨(([109, 121, 99, 111, 110, 116, 105, 110, 101, 110, 116] : Sx)).toArray⟩), (.string ⟨(([99, 111, 117, 110, 116, 114, 121] : Sx)).toArray⟩), (.string ⟨(([122, 111, 110, 101] : Sx)).toArray⟩), (.string ⟨(([99, 111, 110, 116, 105, 110, 101, 110, 116] : Sx)).toArray⟩), (.string ⟨(([99, 97, 108, 108] : Sx)).toArray⟩), (.string ⟨(([103, 111, 116, 122, 111, 110, 101] : Sx)).toArray⟩), (.string ⟨(([99, 97, 116, 101, 103, 111, 114, 121] : Sx)).toArray⟩), (.string ⟨(([112, 111, 119, 101, 114] : Sx)).toArray⟩), (.string ⟨(([115, 116, 97, 116, 117, 115] : Sx)).toArray⟩)] hs0 (fun b21 w22 hs23 => ?_)
 have hr25 : Au Fk 9 F0 (some ⟨b21, 0, none⟩) 14 [([98, 97, 110, 100] : Sx), ([109, 111, 100, 101] : Sx), ([104, 111, 117, 114] : Sx), ([109, 121, 99, 111, 117, 110, 116, 114, 121] : Sx), ([109, 121, 122, 111, 110, 101] : Sx), ([109, 121, 99, 111, 110, 116, 105, 110, 101, 110, 116] : Sx), ([99, 111, 117, 110, 116, 114, 121] : Sx), ([122, 111, 110, 101] : Sx), ([99, 111, 110, 116, 105, 110, 101, 110, 116] : Sx), ([99, 97, 108, 108] : Sx), ([103, 111, 116, 122, 111, 110, 101] : Sx), ([99, 97, 116, 101, 103, 111, 114, 121] : Sx), ([112, 111, 119, 101, 114] : Sx), ([115, 116, 97, 116, 117, 115] : Sx)] (some b21, .cells ([(.string ⟨(([98, 97, 110, 100] : Sx)).toArray⟩), (.string ⟨(([109, 111, 100, 101] : Sx)).toArray⟩), (.string ⟨(([104, 111, 117, 114] : Sx)).toArray⟩), (.string ⟨(([109, 121, 99, 111, 117, 110, 116, 114, 121] : Sx)).toArray⟩), (.string ⟨(([109, 121, 122, 111, 110, 101] : Sx)).toArray⟩), (.string ⟨(([109, 121, 99, 111, 110, 116, 105, 110, 101, 110, 116] : Sx)).toArray⟩), (.string ⟨(([99, 111, 117, 110, 116, 114, 121] : Sx)).toArray⟩), (.string ⟨(([122, 111, 110, 101] : Sx)).toArray⟩), (.string ⟨(([99, 111, 110, 116, 105, 110, 101, 110, 116] : Sx)).toArray⟩), (.string ⟨(([99, 97, 108, 108] : Sx)).toArray⟩), (.string ⟨(([103, 111, 116, 122, 111, 110, 101] : Sx)).toArray⟩), (.string ⟨(([99, 97, 116, 101, 103, 111, 114, 121] : Sx)).toArray⟩), (.string ⟨(([112, 111, 119, 101, 114] : Sx)).toArray⟩), (.string ⟨(([115, 116, 97, 116, 117, 115] : Sx)).toArray⟩)] : List Value).toArray 9 (0, 0)) := Sr ⟨rfl, ⟨rfl, ⟨rfl, ⟨rfl, ⟨rfl, ⟨rfl, ⟨rfl, ⟨rfl, ⟨rfl, ⟨rfl, ⟨rfl, ⟨rfl, ⟨rfl, ⟨rfl, rfl⟩⟩⟩⟩⟩⟩⟩⟩⟩⟩⟩⟩⟩⟩ (by simp)
 refine Vs 1 ?_
 refine Nt ?_
 refine Rt ?_
 have hb29 := Sn hr25
 obtain ⟨F1, hs26, le27, hs28⟩ := hs23.fr0 hr25
 obtain rfl := Aa h
 exact Re [(.slice (some ⟨b21, 0, none⟩) [([98, 97, 110, 100] : Sx), ([109, 111, 100, 101] : Sx), ([104, 111, 117, 114] : Sx), ([109, 121, 99, 111, 117, 110, 116, 114, 121] : Sx), ([109, 121, 122, 111, 110, 101] : Sx), ([109, 121, 99, 111, 110, 116, 105, 110, 101, 110, 116] : Sx), ([99, 111, 117, 110, 116, 114, 121] : Sx), ([122, 111, 110, 101] : Sx), ([99, 111, 110, 116, 105, 110, 101, 110, 116] : Sx), ([99, 97, 108, 108] : Sx), ([103, 111, 116, 122, 111, 110, 101] : Sx), ([99, 97, 116, 101, 103, 111, 114, 121] : Sx), ([112, 111, 119, 101, 114] : Sx), ([115, 116, 97, 116, 117, 115] : Sx)].length 14)] hs26 ⟨(some ⟨b21, 0, none⟩), 14, rfl, hb29, hs28⟩
section
open Go.Proofs Go.RowKit Go.Sort Go.Lib
def strings_HasPrefix (_N : Nat) (s p : Sx) : Option Bool := some (Go.Lib.hasPrefix s p)
theorem Gy : An Tryz.prog 182 := fun _ _ => by kernel_rfl
theorem G7 (N : Nat) (w0 : World) (F0 : Mem) (hF : Sz w0 F0) (x0 : Sx) (x1 : Sx) (r : Bool) (h : strings_HasPrefix N x0 x1 = some r) :
  Calls Tryz.prog 182 ([(.string ⟨(x0).toArray⟩), (.string ⟨(x1).toArray⟩)] : List Value).toArray w0 (AU w0 F0 fun _ v => v = (.bool r)) := by
 cases h
 exact AU.below hF ((Tryz.strings_HasPrefix ⟨x0.toArray⟩ ⟨x1.toArray⟩ w0).mono fun e w' ⟨he, hw⟩ => ⟨he, hw ▸ Below.refl _ _⟩) rfl
def strings_IndexByte (_N : Nat) (s : Sx) (c : Int) : Option Int := some (Go.Lib.indexByte s c.toNat.toUInt8)
theorem Gx : An Tryz.prog 183 := fun _ _ => by kernel_rfl
theorem G6 (N : Nat) (w0 : World) (F0 : Mem) (hF : Sz w0 F0) (x0 : Sx) (x1 : Int) (r : Int) (h : strings_IndexByte N x0 x1 = some r) :
  Calls Tryz.prog 183 ([(.string ⟨(x0).toArray⟩), (.int .u8 x1)] : List Value).toArray w0 (AU w0 F0 fun _ v => v = (.int .i64 r)) := by
 cases h
 exact AU.below hF ((Tryz.strings_IndexByte ⟨x0.toArray⟩ x1 w0).mono fun e w' ⟨he, hw⟩ => ⟨he, hw ▸ Below.refl _ _⟩) rfl
def strconv_Itoa (_N : Nat) (n : Int) : Option Sx := if -9223372036854775808 <= n /\ n <= 9223372036854775807 then some (Go.Lib.itoa n) else none
theorem JL : An Tryz.prog 151 := fun _ _ => by kernel_rfl
theorem KC (N : Nat) (w0 : World) (F0 : Mem) (hF : Sz w0 F0) (hG : CI F0) (x0 : Int) (r : Sx) (h : strconv_Itoa N x0 = some r) :
  Calls Tryz.prog 151 ([(.int .i64 x0)] : List Value).toArray w0 (AU w0 F0 fun _ v => v = (.string ⟨(r).toArray⟩)) := by
 unfold strconv_Itoa at h
 split at h
 ·rename_i ha
  cases h
  refine AU.below hF ((Tryz.strconv_Itoa x0 ha.1 ha.2 w0 (hG w0 hF).1).mono ?_) rfl
  rintro e w' ⟨rfl, k, os, rfl⟩
  exact ⟨rfl, rfl, rfl, rfl, by simp [grow, World.drewN], fun j hj => by
   show ((w0.drewN k).heap ++ os)[j]? = _
   rw [Array.getElem?_append_left (show j < (w0.drewN k).heap.size from hj)]; rfl⟩
 ·cases h
def FD (_N : Nat) (s : Sx) : Option (Int × Bool) := if s.length <= 281474976710656 then (match Go.Lib.atoiAll s with
 | .ok v => some (v, false)
 | .range => some (Go.Lib.atoiSat s, true)
 | _ => none) else none
theorem JM : An Tryz.prog 248 := fun _ _ => by kernel_rfl
theorem KD (N : Nat) (w0 : World) (F0 : Mem) (hF : Sz w0 F0) (hG : CI F0) (x0 : Sx) (r : Int × Bool) (h : FD N x0 = some r) :
  Calls Tryz.prog 248 ([(.string ⟨(x0).toArray⟩)] : List Value).toArray w0 (AU w0 F0 fun _ v => ∃ (vq1_0 : Value), v = (.tuple #[(.int .i64 r.1), vq1_0]) /\ RE r.2 vq1_0) := by
 unfold FD at h
 split at h
 ·rename_i ha
  have hsz : (⟨x0.toArray⟩ : ByteArray).size <= 281474976710656 := by simpa [ByteArray.size] using ha
  split at h
  ·rename_i v hv
   cases h
   refine AU.below hF ((Tryz.strconv_Atoi_ok ⟨x0.toArray⟩ (by omega) v (by simpa using hv) w0).mono ?_) ⟨.nilIface, rfl, rfl⟩
   rintro e w' ⟨rfl, (rfl | ⟨t, rfl⟩)⟩
   ·exact ⟨rfl, Below.refl _ _⟩
   ·exact ⟨rfl, rfl, rfl, rfl, by rw [Go.Lib.bytesWorld_size]; omega, fun j hj => Go.Lib.bytesWorld_at_old w0 _ _ j hj⟩
  ·rename_i hv
   cases h
   obtain ⟨tp, p, hvar⟩ := (hG w0 hF).2
   refine (Tryz.strconv_Atoi_range_var ⟨x0.toArray⟩ hsz (by simpa using hv) tp p w0 hvar).mono ?_
   rintro e w' ⟨n, rfl, _, _, hb⟩
   exact ⟨_, F0, rfl, HS.below hF hb, _, rfl, _, _, rfl⟩
  ·cases h
 ·cases h
end
def NO (sR97 : Expr -> Int -> Option Sx) : Prop := ∀ (w0 : World) (F0 : Mem) (hF : Sz w0 F0) (hG : CI F0) (x0 : Expr) (a0_2 : Sy) (n0_2 : Nat) (hb0_2 : LC x0.Kids.length n0_2) (hs0_2 : SlA Ao F0 a0_2 x0.Kids) (x1 : Int) (r : Sx), sR97 x0 x1 = some r -> Calls Tryz.prog 97 ([(.agg #[(.int .i64 x0.Op), (.int .i64 x0.Value), (.slice a0_2 x0.Kids.length n0_2)]), (.int .i64 x1)] : List Value).toArray w0 (AU w0 F0 fun F' v => v = (.string ⟨(r).toArray⟩))
theorem C3 : An Tryz.prog 97 := fun _ _ => by kernel_rfl
def FS (N : Nat) (sR97 : Expr -> Int -> Option Sx) (x0 : Expr) (x1 : Int) : Option Sx :=
 ((HQ N x0.Op).bind fun r24 => ((bif r24.2 then (((idx x0.Kids 0).bind fun x62 => ((idx x0.Kids 1).bind fun x76 => ((sR97 x62 r24.1.left_).bind fun r82 => ((LR r82 ([32] : Sx)).bind fun r90 => ((LR r90 r24.1.text_).bind fun r93 => ((LR r93 ([32] : Sx)).bind fun r96 => ((sR97 x76 r24.1.right_).bind fun r99 => ((LR r96 r99).bind fun r107 => some r107)))))))).bind fun j55 => some (r24.1.rank_, j55)) else ((bif (x0.Op == 1) then ((strconv_Itoa N x0.Value).bind fun r123 => some (7, r123)) else ((bif (x0.Op == 2) then (((Gh N ).bind fun r156 => ((idx r156 x0.Value).bind fun x164 => some x164)).bind fun j149 => some (7, j149)) else ((bif (x0.Op == 3) then ((idx x0.Kids 0).bind fun x191 => ((sR97 x191 3).bind fun r205 => ((LR ([110, 111, 116, 32] : Sx) r205).bind fun r213 => some (3, r213)))) else (bif (x0.Op == 11) then none else some (7, ([] : Sx)))).bind fun j181 => some (j181.1, j181.2))).bind fun j134 => some (j134.1, j134.2))).bind fun j113 => some (j113.1, j113.2))).bind fun j40 => (bif (decide (j40.1 < x1)) then ((LR ([40] : Sx) j40.2).bind fun r222 => ((LR r222 ([41] : Sx)).bind fun r225 => some r225)) else some j40.2)))
theorem Ji (N : Nat) (sR97 : Expr -> Int -> Option Sx) (hsR97 : NO sR97) (w0 : World) (F0 : Mem) (hF : Sz w0 F0) (hG : CI F0) (x0 : Expr) (a0_2 : Sy) (n0_2 : Nat) (hb0_2 : LC x0.Kids.length n0_2) (hs0_2 : SlA Ao F0 a0_2 x0.Kids) (x1 : Int) (r : Sx) (h : FS N sR97 x0 x1 = some r) :
  Calls Tryz.prog 97 ([(.agg (Ae x0 a0_2 n0_2)), (vi x1)] : List Value).toArray w0 (AU w0 F0 fun F' v => v = (.string ⟨(r).toArray⟩)) := by
 have hs0 := R7 hF
 refine Go 97 Tryz.func97 ?_
 refine Sq (Rg [0, 1] ?_)
 refine Bx' 33 (Ae x0 a0_2 n0_2) hs0 (fun b21 w22 hs23 => ?_)
 refine Vs 1 ?_
 refine Nss (Rg [0, 1] ?_)
 refine Vs 2 ?_
 refine Nss (Rg [0, 1, 2, 3, 4, 5, 6, 7, 8] ?_)
 refine Vs 1 ?_
 refine Ld hs23.at0 ?_
 obtain ⟨r24, hr25, h26⟩ := bind_some h
 refine Cl' JO hs23 (KF N w22 F0 hs23.pers x0.Op _ hr25) ?_
 rintro _ F1 w28 hs29 le30 rfl
 refine Vs 3 ?_
 refine Al' 173 #[(.string ⟨(([] : Sx)).toArray⟩), (vi 0), (vi 0), (vi 0)] hs29 (fun b32 w33 hs34 => ?_)
 refine St0 (E0 r24.1) hs34 (fun w35 hs36 => ?_)
 refine Vs 1 ?_
 refine Nss ?_
 refine Bk ?_
 refine Sq (Rg [0, 1] ?_)
 refine Vs 2 ?_
 refine Nt ?_
 obtain ⟨j40, hj45, h46⟩ := bind_some h26
 refine Se (fun f w => ∃ (F2 : Mem), HS w0 F0 w F2 [] /\ R5 F1 F2 /\ FI f [] [(1, (vi x1)), (5, (vi j40.1)), (6, (.string ⟨(j40.2).toArray⟩))]) ?_ ?_
 ·refine Cd hj45 (fun hb47 h48 => ?_) (fun hb47 h49 => ?_)
  ·obtain ⟨j55, hj60, h61⟩ := bind_some h48
   refine RD 24 24 [(sb b32 (E0 r24.1) 173), (sb b21 (Ae x0 a0_2 n0_2) 33)] [] hs36 (fun f w => ∃ (F3 : Mem), HS w0 F0 w F3 [] /\ R5 F1 F3 /\ FI f [] [(1, (vi x1)), (5, (vi r24.1.rank_)), (6, (.string ⟨(j55).toArray⟩))]) (fun wd50 hw51 => ?_) ?_
   ·refine Dvl [0] [tt, ff, ff, ff, ff, ff, ff, ff, ff, ff, ff, ff, ff, ff, ff, ff, ff, ff, ff, ff, ff, ff, ff, ff] ?_
    refine Dl 1 (fun _ hq => (hq.1.2 0 _ _ rfl)) ?_
    refine Dvl [2] [tt, tt, tt, ff, ff, ff, ff, ff, ff, ff, ff, ff, ff, ff, ff, ff, ff, ff, ff, ff, ff, ff, ff, ff] ?_
    refine Dl 3 (fun _ hq => (hq.1.2 1 _ _ rfl)) ?_
    obtain ⟨x62, hx63, h65⟩ := bind_some hj60
    obtain ⟨hi64, hx63'⟩ := Ay hx63
    obtain ⟨b66, o67, C68, E69, fz70, rfl, hF72, hE73⟩ := Sh (R8 hs0_2 le30) hx63'
    obtain ⟨ae74_2, ne74_2, hc75, hbe74_2, hse74_2⟩ := (AR (hE73 _ _ hx63'))
    refine Di 4 hi64 ?_
    refine Dx 5 0 (fun _ hq => hq.1.1 _ _ hF72) hc75 ?_
    refine Dvl [6] [tt, tt, tt, tt, tt, tt, tt, ff, ff, ff, ff, ff, ff, ff, ff, ff, ff, ff, ff, ff, ff, ff, ff, ff] ?_
    refine Dl 7 (fun _ hq => (hq.1.2 0 _ _ rfl)) ?_
    refine Dvl [10] [tt, tt, tt, tt, tt, tt, tt, tt, ff, ff, tt, ff, ff, ff, ff, ff, ff, ff, ff, ff, ff, ff, ff, ff] ?_
    refine Dl 11 (fun _ hq => (hq.1.2 0 _ _ rfl)) ?_
    refine Dvl [14] [tt, tt, tt, tt, tt, tt, tt, tt, ff, ff, tt, tt, ff, ff, tt, ff, ff, ff, ff, ff, ff, ff, ff, ff] ?_
    refine Dl 15 (fun _ hq => (hq.1.2 1 _ _ rfl)) ?_
    obtain ⟨x76, hx77, h79⟩ := bind_some h65
    obtain ⟨hi78, hx77'⟩ := Ay hx77
    obtain ⟨ae80_2, ne80_2, hc81, hbe80_2, hse80_2⟩ := (AR (hE73 _ _ hx77'))
    refine Di 16 hi78 ?_
    refine Dx 17 0 (fun _ hq => hq.1.1 _ _ hF72) hc81 ?_
    refine Dvl [18] [tt, tt, tt, tt, tt, tt, tt, tt, ff, ff, tt, tt, ff, ff, tt, tt, tt, tt, tt, ff, ff, ff, ff, ff] ?_
    refine Dl 19 (fun _ hq => (hq.1.2 0 _ _ rfl)) ?_
    refine D1 8 ?_
    obtain ⟨r82, hr83, h84⟩ := bind_some h79
    refine DCl C3 hw51 (hsR97 wd50 F1 hw51.pers (hG.mono le30) x62 ae74_2 ne74_2 hbe74_2 hse74_2 r24.1.left_ _ hr83) ?_
    rintro _ F4 w86 hs87 le88 rfl
    obtain ⟨r90, hr91, h92⟩ := bind_some h84
    refine Dtl 9 26 9 (.string ⟨(r90).toArray⟩) [tt, tt, tt, tt, tt, tt, tt, tt, tt, tt, tt, tt, ff, ff, tt, tt, tt, tt, tt, tt, ff, ff, ff, ff] (fun _ hq => EE (t := 9) (t' := 9) (x := (.tmp 25)) (y := (.const (.string ⟨([32] : Sx).toArray⟩))) (a := r82) (b := ([32] : Sx)) (v := r90) rfl rfl hr91) ?_
    obtain ⟨r93, hr94, h95⟩ := bind_some h92
    refine Dtl 12 29 9 (.string ⟨(r93).toArray⟩) [tt, tt, tt, tt, tt, tt, tt, tt, tt, tt, tt, tt, tt, ff, tt, tt, tt, tt, tt, tt, ff, ff, ff, ff] (fun _ hq => EE (t := 9) (t' := 9) (x := (.tmp 26)) (y := (.tmp 28)) (a := r90) (b := r24.1.text_) (v := r93) rfl rfl hr94) ?_
    obtain ⟨r96, hr97, h98⟩ := bind_some h95
    refine Dtl 13 30 9 (.string ⟨(r96).toArray⟩) [tt, tt, tt, tt, tt, tt, tt, tt, tt, tt, tt, tt, tt, tt, tt, tt, tt, tt, tt, tt, ff, ff, ff, ff] (fun _ hq => EE (t := 9) (t' := 9) (x := (.tmp 29)) (y := (.const (.string ⟨([32] : Sx).toArray⟩))) (a := r93) (b := ([32] : Sx)) (v := r96) rfl rfl hr97) ?_
    refine D1 20 ?_
    obtain ⟨r99, hr100, h101⟩ := bind_some h98
    refine DCl C3 hs87 (hsR97 w86 F4 hs87.pers (hG.mono (le30.trans le88)) x76 ae80_2 ne80_2 hbe80_2 (R8 hse80_2 le88) r24.1.right_ _ hr100) ?_
    rintro _ F5 w103 hs104 le105 rfl
    obtain ⟨r107, hr108, h109⟩ := bind_some h101
    refine Dtl 21 38 9 (.string ⟨(r107).toArray⟩) [tt, tt, tt, tt, tt, tt, tt, tt, tt, tt, tt, tt, tt, tt, tt, tt, tt, tt, tt, tt, tt, tt, ff, ff] (fun _ hq => EE (t := 9) (t' := 9) (x := (.tmp 30)) (y := (.tmp 37)) (a := r96) (b := r99) (v := r107) rfl rfl hr108) ?_
    refine Dvl [22, 23] [tt, tt, tt, tt, tt, tt, tt, tt, tt, tt, tt, tt, tt, tt, tt, tt, tt, tt, tt, tt, tt, tt, tt, tt] ?_
    obtain rfl := Aa h109
    exact Sm (by kernel_rfl) ⟨F5, hs104.dr0.dr0, (le88.trans le105), fI⟩
   ·rintro f w52 ⟨F3, hs53, le54, ⟨_, rfl⟩⟩
    obtain rfl := Aa h61
    exact .inl ⟨rfl, F3, hs53, le54, fI⟩
  ·refine Sq (Rg [0, 1, 2, 3] ?_)
   refine Vs 1 ?_
   refine Ld hs36.at1 ?_
   refine Vs 2 ?_
   refine Nt ?_
   obtain ⟨j113, hj118, h119⟩ := bind_some h49
   refine Se (fun f w => ∃ (F6 : Mem), HS w0 F0 w F6 [] /\ R5 F1 F6 /\ FI f [] [(1, (vi x1)), (5, (vi j113.1)), (6, (.string ⟨(j113.2).toArray⟩))]) ?_ ?_
   ·refine Cd hj118 (fun hb120 h121 => ?_) (fun hb120 h122 => ?_)
    ·refine Rg [0, 1, 2, 3] ?_
     refine Vs 1 ?_
     refine Ld hs36.at1 ?_
     obtain ⟨r123, hr124, h125⟩ := bind_some h121
     refine Cl' JL hs36 (KC N w35 F1 hs36.pers (hG.mono le30) x0.Value _ hr124) ?_
     rintro _ F7 w127 hs128 le129 rfl
     refine Vs 1 ?_
     refine RY ?_
     obtain rfl := Aa h125
     exact .inl ⟨rfl, F7, hs128.dr0.dr0, le129, fI⟩
    ·refine Sq (Rg [0, 1, 2, 3] ?_)
     refine Vs 1 ?_
     refine Ld hs36.at1 ?_
     refine Vs 2 ?_
     refine Nt ?_
     obtain ⟨j134, hj139, h140⟩ := bind_some h122
     refine Se (fun f w => ∃ (F8 : Mem), HS w0 F0 w F8 [] /\ R5 F1 F8 /\ FI f [] [(1, (vi x1)), (5, (vi j134.1)), (6, (.string ⟨(j134.2).toArray⟩))]) ?_ ?_
     ·refine Cd hj139 (fun hb141 h142 => ?_) (fun hb141 h143 => ?_)
      ·obtain ⟨j149, hj154, h155⟩ := bind_some h142
       refine RD 6 6 [(sb b32 (E0 r24.1) 173), (sb b21 (Ae x0 a0_2 n0_2) 33)] [] hs36 (fun f w => ∃ (F9 : Mem), HS w0 F0 w F9 [] /\ R5 F1 F9 /\ FI f [] [(1, (vi x1)), (5, (vi 7)), (6, (.string ⟨(j149).toArray⟩))]) (fun wd144 hw145 => ?_) ?_
       ·refine Dv [1] ?_
        refine Dl 2 (fun _ hq => (hq.1.2 1 _ _ rfl)) ?_
        refine D1 0 ?_
        obtain ⟨r156, hr157, h158⟩ := bind_some hj154
        refine DCl GG hw145 (Hw N wd144 F1 hw145.pers  _ hr157) ?_
        rintro _ F10 w160 hs161 le162 ⟨ar156_0_0, nr156_0_0, rfl, hbr156_0_0, hsr156_0_0⟩
        obtain ⟨x164, hx165, h167⟩ := bind_some h158
        obtain ⟨hi166, hx165'⟩ := Ay hx165
        obtain ⟨b168, o169, C170, E171, fz172, rfl, hF174, hE175⟩ := Sh hsr156_0_0 hx165'
        have hc177 := hE175 _ _ hx165'
        refine Di 3 hi166 ?_
        refine D1 4 ?_
        refine Sk (l' := [true, true, true, true, true, false]) (zd := true) (by kernel_rfl) (by kernel_rfl) (dst := (some 54)) (ty := 9) (g := none) (by kernel_rfl) rfl (IC (t := 9) (x := (.tmp 53)) (b := b168) (o := (o169 + (x0.Value : Int).toNat * 1)) (j := 0) (C := C170) (kk := 1) (cs := [(.string ⟨(x164).toArray⟩)]) (gg := false) (s := 1) (v := (.string ⟨(x164).toArray⟩)) rfl (by kernel_rfl) (hs161.pers _ _ hF174) hc177 (by decide) (by exact ⟨rfl, trivial⟩) rfl rfl) (BF hs161 le162 (by simp) (fun e => by cases e)) ?_
        refine Dv [5] ?_
        obtain rfl := Aa h167
        exact Sm (by kernel_rfl) ⟨F10, hs161.dr0.dr0, le162, fI⟩
       ·rintro f w146 ⟨F9, hs147, le148, ⟨_, rfl⟩⟩
        obtain rfl := Aa h155
        exact .inl ⟨rfl, F9, hs147, le148, fI⟩
      ·refine Sq (Rg [0, 1, 2, 3] ?_)
       refine Vs 1 ?_
       refine Ld hs36.at1 ?_
       refine Vs 2 ?_
       refine Nt ?_
       obtain ⟨j181, hj186, h187⟩ := bind_some h143
       refine Se (fun f w => ∃ (F11 : Mem), HS w0 F0 w F11 [] /\ R5 F1 F11 /\ FI f [] [(1, (vi x1)), (5, (vi j181.1)), (6, (.string ⟨(j181.2).toArray⟩))]) ?_ ?_
       ·refine Cd hj186 (fun hb188 h189 => ?_) (fun hb188 h190 => ?_)
        ·refine Rg [0, 1, 2, 3, 4, 5, 6, 7] ?_
         refine Vs 1 ?_
         refine Ld hs36.at1 ?_
         obtain ⟨x191, hx192, h194⟩ := bind_some h189
         obtain ⟨hi193, hx192'⟩ := Ay hx192
         obtain ⟨b195, o196, C197, E198, fz199, rfl, hF201, hE202⟩ := Sh (R8 hs0_2 le30) hx192'
         obtain ⟨ae203_2, ne203_2, hc204, hbe203_2, hse203_2⟩ := (AR (hE202 _ _ hx192'))
         refine Ix hi193 ?_
         refine Lx 0 (hs36.pers _ _ hF201) hc204 ?_
         obtain ⟨r205, hr206, h207⟩ := bind_some h194
         refine Cl' C3 hs36 (hsR97 w35 F1 hs36.pers (hG.mono le30) x191 ae203_2 ne203_2 hbe203_2 hse203_2 3 _ hr206) ?_
         rintro _ F12 w209 hs210 le211 rfl
         obtain ⟨r213, hr214, h215⟩ := bind_some h207
         refine V 64 9 (EE (t := 9) (t' := 9) (x := (.const (.string ⟨([110, 111, 116, 32] : Sx).toArray⟩))) (y := (.tmp 63)) (a := ([110, 111, 116, 32] : Sx)) (b := r205) (v := r213) rfl rfl hr214) ?_
         refine Vs 2 ?_
         refine RY ?_
         obtain rfl := Aa h215
         exact .inl ⟨rfl, F12, hs210.dr0.dr0, le211, fI⟩
        ·refine Sq (Rg [0, 1, 2, 3] ?_)
         refine Vs 1 ?_
         refine Ld hs36.at1 ?_
         refine Vs 2 ?_
         refine Nt ?_
         refine Cd h190 (fun hb216 h217 => ?_) (fun hb216 h218 => ?_)
         ·cases h217
         ·refine Sc ?_
          obtain rfl := Aa h218
          exact .inl ⟨rfl, F1, hs36.dr0.dr0, (R6 _), fI⟩
       ·rintro f w178 ⟨F11, hs179, le180, ⟨_, rfl⟩⟩
        obtain rfl := Aa h187
        exact .inl ⟨rfl, F11, hs179, le180, fI⟩
     ·rintro f w131 ⟨F8, hs132, le133, ⟨_, rfl⟩⟩
      obtain rfl := Aa h140
      exact .inl ⟨rfl, F8, hs132, le133, fI⟩
   ·rintro f w110 ⟨F6, hs111, le112, ⟨_, rfl⟩⟩
    obtain rfl := Aa h119
    exact .inl ⟨rfl, F6, hs111, le112, fI⟩
 ·rintro f w37 ⟨F2, hs38, le39, ⟨_, rfl⟩⟩
  refine Ap ?_
  refine Ac ?_
  refine Sq ?_
  refine Sq (Rg [0, 1, 2] ?_)
  refine Vs 3 ?_
  refine Nt ?_
  refine Cd h46 (fun hb219 h220 => ?_) (fun hb219 h221 => ?_)
  ·refine Sq (Rg [0, 1, 2, 3] ?_)
   refine Vs 1 ?_
   obtain ⟨r222, hr223, h224⟩ := bind_some h220
   refine V 94 9 (EE (t := 9) (t' := 9) (x := (.const (.string ⟨([40] : Sx).toArray⟩))) (y := (.tmp 93)) (a := ([40] : Sx)) (b := j40.2) (v := r222) rfl rfl hr223) ?_
   obtain ⟨r225, hr226, h227⟩ := bind_some h224
   refine V 95 9 (EE (t := 9) (t' := 9) (x := (.tmp 94)) (y := (.const (.string ⟨([41] : Sx).toArray⟩))) (a := r222) (b := ([41] : Sx)) (v := r225) rfl rfl hr226) ?_
   refine Vs 1 ?_
   refine Nt ?_
   refine Rt ?_
   refine Af ?_
   obtain rfl := Aa h227
   exact Re [(.string ⟨(r225).toArray⟩)] hs38 rfl
  ·refine Sc ?_
   refine Ac ?_
   refine Sq (Rg [0, 1] ?_)
   refine Vs 2 ?_
   refine Nt ?_
   refine Rt ?_
   obtain rfl := Aa h221
   exact Re [(.string ⟨(j40.2).toArray⟩)] hs38 rfl
structure Rx where
 q97 : Expr -> Int -> Option Sx
def N6 (N : Nat) : Nat -> Rx
 | 0 => ⟨fun _ _ => none⟩
 | k + 1 => ⟨FS N (N6 N k).q97⟩
theorem ME (N : Nat) : ∀ k, NO (N6 N k).q97
 | 0 => (by unfold NO; intros; rename_i h; cases h)
 | k + 1 => by
  have ih := ME N k
  exact @Ji N (N6 N k).q97 ih
def Hn (N : Nat) (x0 : Expr) (x1 : Int) : Option Sx := (N6 N N).q97 x0 x1
theorem JV (N : Nat) (w0 : World) (F0 : Mem) (hF : Sz w0 F0) (hG : CI F0) (x0 : Expr) (a0_2 : Sy) (n0_2 : Nat) (hb0_2 : LC x0.Kids.length n0_2) (hs0_2 : SlA Ao F0 a0_2 x0.Kids) (x1 : Int) (r : Sx) (h : Hn N x0 x1 = some r) :
  Calls Tryz.prog 97 ([(.agg #[(.int .i64 x0.Op), (.int .i64 x0.Value), (.slice a0_2 x0.Kids.length n0_2)]), (.int .i64 x1)] : List Value).toArray w0 (AU w0 F0 fun F' v => v = (.string ⟨(r).toArray⟩)) := (ME N N) w0 F0 hF hG x0 a0_2 n0_2 hb0_2 hs0_2 x1 r h
def FT (N : Nat) (x0 : Expr) : Option (Sx × Int) :=
 ((CM N x0).bind fun r24 => (bif (!r24) then some (([] : Sx), 61) else ((Hn N x0 1).bind fun r35 => some (r35, 0))))
theorem HE : An Tryz.prog 33 := fun _ _ => by kernel_rfl
theorem Ip (N : Nat) (w0 : World) (F0 : Mem) (hF : Sz w0 F0) (hG : CI F0) (x0 : Expr) (a0_2 : Sy) (n0_2 : Nat) (hb0_2 : LC x0.Kids.length n0_2) (hs0_2 : SlA Ao F0 a0_2 x0.Kids) (r : (Sx × Int)) (h : FT N x0 = some r) :
  Calls Tryz.prog 33 ([(.agg (Ae x0 a0_2 n0_2))] : List Value).toArray w0 (AU w0 F0 fun F' v => v = (.tuple #[(.string ⟨(r.1).toArray⟩), (vi r.2)])) := by
 have hs0 := R7 hF
 refine Go 9 Tryz.func33 ?_
 refine Sq (Rg [0, 1, 2] ?_)
 refine Bx' 33 (Ae x0 a0_2 n0_2) hs0 (fun b21 w22 hs23 => ?_)
 refine Vs 2 ?_
 refine Nss ?_
 refine Sq (Rg [0, 1, 2] ?_)
 refine Ld hs23.at0 ?_
 obtain ⟨r24, hr25, h26⟩ := bind_some h
 refine Cl' DB hs23 (D0 N w22 F0 hs23.pers x0 a0_2 n0_2 hb0_2 hs0_2 _ hr25) ?_
 rintro _ F1 w28 hs29 le30 rfl
 refine Vs 1 ?_
 refine Nt ?_
 refine Cd h26 (fun hb32 h33 => ?_) (fun hb32 h34 => ?_)
 ·refine Sq (Rg [0, 1] ?_)
  refine Vs 2 ?_
  refine Nt ?_
  refine Rt ?_
  refine Af ?_
  obtain rfl := Aa h33
  exact Re [(.string ⟨(([] : Sx)).toArray⟩), (vi 61)] hs29 rfl
 ·refine Sc ?_
  refine Ac ?_
  refine Sq (Rg [0, 1, 2, 3] ?_)
  refine Ld hs29.at0 ?_
  obtain ⟨r35, hr36, h37⟩ := bind_some h34
  refine Cl' C3 hs29 (JV N w28 F1 hs29.pers (hG.mono le30) x0 a0_2 n0_2 hb0_2 (R8 hs0_2 le30) 1 _ hr36) ?_
  rintro _ F2 w39 hs40 le41 rfl
  refine Vs 2 ?_
  refine Nt ?_
  refine Rt ?_
  obtain rfl := Aa h37
  exact Re [(.string ⟨(r35).toArray⟩), (vi 0)] hs40 rfl
def Ia (m : ∀ {σ : Type}, (σ -> Aq -> Option (Bool × σ)) -> σ -> Option σ) : Option (List Aq) := m (fun st x => (EQ st [x]).map fun t => (true, t)) ([] : List Aq)
theorem G5 : An Tryz.prog 179 := fun _ _ => by kernel_rfl
theorem HF (w0 : World) (F0 : Mem) (hF : Sz w0 F0) (gf : FuncId) (cap : List Value) (m : ∀ {σ : Type}, (σ -> Aq -> Option (Bool × σ)) -> σ -> Option σ) (hgf : An Tryz.prog gf) (hseq : LH Tryz.prog gf cap F0 [] Mb N9 N7 m) (r : (List Aq)) (h : Ia m = some r) :
  Calls Tryz.prog 179 ([.slice none 0 0, (.func (.func gf) #[] cap.toArray)] : List Value).toArray w0 (AU w0 F0 fun F' v => ∃ (aq0_0 : Sy) (nq0_0 : Nat), v = (.slice aq0_0 r.length nq0_0) /\ LC r.length nq0_0 /\ SlA Ag F' aq0_0 r) := by
 have hs0 := R7 hF
 refine LD (n := 13) (c := B7 Tryz.f179) Tryz.func179 (by kernel_rfl) (by kernel_rfl) (by kernel_rfl) ?_
 refine Sq ?_
 refine Rg [0, 1] ?_
 refine RWP.box (dst := (some 2)) (ty := 0) (g := none) (by kernel_rfl) rfl (x := (.tmp 0)) (t := 98) (v := (.slice none ([] : List Aq).length 0)) rfl (C := #[(.slice none ([] : List Aq).length 0)]) rfl hs0 (fun b1 w2 (hs3 : HS w0 F0 w2 F0 [(some b1, (.cells #[(.slice none ([] : List Aq).length 0)] 98 (0, 0)))]) => ?_)
 refine V 4 98 (AA (x := (.const (.slice none 0 0))) (v := (.slice none ([] : List Aq).length 0)) rfl) ?_
 refine RY ?_
 refine Ac ?_
 refine Sq ?_
 refine Sq ?_
 refine Rg [0] ?_
 refine V 6 162 (AJ (x := (.tmp 1)) (v := (.func (.func gf) #[] cap.toArray)) rfl) ?_
 refine RY ?_
 refine Ac ?_
 refine CWP.block (by kernel_rfl) ?_
 have hs4 : HS w0 F0 w2 F0 [(none, .cells #[] 0 (0, 0)), (some b1, (.cells #[(.slice none ([] : List Aq).length 0)] 98 (0, 0)))] := hs3.dummy _
 obtain ⟨r14, hr15, h16⟩ : ∃ r14, Ia m = some r14 /\ some r14 = some r := ⟨r, h, rfl⟩
 refine CWP.rangeFunc (enc := Mb) (ok := N9) (px := N7) (m := fun {_} y s => m y s) (L := [(none, .cells #[] 0 (0, 0)), (some b1, (.cells #[(.slice none ([] : List Aq).length 0)] 98 (0, 0)))]) (B := []) (ps := [7]) (by kernel_rfl) (gf := gf) (cap := cap) rfl hgf rfl (by kernel_rfl) (by kernel_rfl) (fun _ => rfl) hs4 hseq (fun st x => (EQ st [x]).map fun t => (true, t)) (fun (s6 : (List Aq)) (F1 : Mem) (Lq : Own) => ∃ (as6_0 : Sy) (ns6_0 : Nat) (es6_0 : Option Nat × Obj), Lq = [es6_0, (some b1, (.cells #[(.slice as6_0 s6.length ns6_0)] 98 (0, 0)))] /\ Au Ag 97 F1 as6_0 ns6_0 s6 es6_0) ?_ (s := ([] : List Aq)) (r := r14) ?_ hr15 (fun _ _ _ h => (HZ h).1) ?_ ?_
 ·
  rintro s F F' L ⟨as6_0, ns6_0, es6_0, rfl, hrs6_0⟩ hl
  exact ⟨as6_0, ns6_0, es6_0, rfl, (hrs6_0.mono hl)⟩
 ·
  exact ⟨none, 0, (none, .cells #[] 0 (0, 0)), rfl, (So Ag 97 F0 _)⟩
 ·
  rintro l17 s6 x19 w20 F1 _ Rf22 ⟨q0, q23⟩ le24 ok25 ⟨as6_0, ns6_0, es6_0, rfl, hrs6_0⟩ hs26 hy27
  have h28 := (HZ hy27).2
  have hs29 : HS w0 F0 w20 F1 (es6_0 :: (some b1, (.cells #[(.slice as6_0 s6.length ns6_0)] 98 (0, 0))) :: Rf22) := hs26
  refine Rg [0, 1] ?_
  refine Sf (dst := (some 5)) (ty := 0) (g := none) (by kernel_rfl) rfl (t := 97) (z := (.agg #[(.int .i64 0), (.int .i64 0), (.string ⟨(([] : Sx)).toArray⟩)])) (by kernel_rfl) (C := #[(.int .i64 0), (.int .i64 0), (.string ⟨(([] : Sx)).toArray⟩)]) rfl hs29 (fun b30 w31 (hs32 : HS w0 F0 w31 F1 ((some b30, (.cells #[(.int .i64 0), (.int .i64 0), (.string ⟨(([] : Sx)).toArray⟩)] 97 (0, 0))) :: es6_0 :: (some b1, (.cells #[(.slice as6_0 s6.length ns6_0)] 98 (0, 0))) :: Rf22)) => ?_)
  refine Sg (ty := 0) (g := none) (by kernel_rfl) rfl (x := (.tmp 5)) (y := (.tmp 7)) (t := 97) (gg := true) (s := 3) (v := (.agg #[(.int .i64 x19.kind_), (.int .i64 x19.at_), (.string ⟨(x19.text_).toArray⟩)])) (b := b30) (o := 0) (C := #[(.int .i64 0), (.int .i64 0), (.string ⟨(([] : Sx)).toArray⟩)]) rfl rfl (by kernel_rfl) hs32 (k := 0) rfl rfl rfl rfl (C' := #[(.int .i64 x19.kind_), (.int .i64 x19.at_), (.string ⟨(x19.text_).toArray⟩)]) rfl (fun w33 (hs34 : HS w0 F0 w33 F1 ((some b30, (.cells #[(.int .i64 x19.kind_), (.int .i64 x19.at_), (.string ⟨(x19.text_).toArray⟩)] 97 (0, 0))) :: es6_0 :: (some b1, (.cells #[(.slice as6_0 s6.length ns6_0)] 98 (0, 0))) :: Rf22)) => ?_)
  refine RY ?_
  refine ⟨rfl, F1, [(some b30, (.cells #[(.int .i64 x19.kind_), (.int .i64 x19.at_), (.string ⟨(x19.text_).toArray⟩)] 97 (0, 0))), es6_0, (some b1, (.cells #[(.slice as6_0 s6.length ns6_0)] 98 (0, 0)))], hs34, fun w35 Rf36 hs37 => ?_⟩
  have hs38 : HS w0 F0 w35 F1 ((some b30, (.cells #[(.int .i64 x19.kind_), (.int .i64 x19.at_), (.string ⟨(x19.text_).toArray⟩)] 97 (0, 0))) :: es6_0 :: (some b1, (.cells #[(.slice as6_0 s6.length ns6_0)] 98 (0, 0))) :: Rf36) := hs37
  refine CWP.block (by kernel_rfl) ?_
  refine Rg [0, 1, 2, 3, 4] ?_
  refine V 8 98 (Cb (t := 98) (x := (.tmp 2)) (b := b1) (o := 0) (g := false) (s := 1) (C := #[(.slice as6_0 s6.length ns6_0)]) (v := (.slice as6_0 s6.length ns6_0)) rfl (by kernel_rfl) (hs38.ownAt (k := 2) rfl) rfl rfl rfl) ?_
  refine V 9 97 (Cb (t := 97) (x := (.tmp 5)) (b := b30) (o := 0) (g := true) (s := 3) (C := #[(.int .i64 x19.kind_), (.int .i64 x19.at_), (.string ⟨(x19.text_).toArray⟩)]) (v := (.agg #[(.int .i64 x19.kind_), (.int .i64 x19.at_), (.string ⟨(x19.text_).toArray⟩)])) rfl (by kernel_rfl) (hs38.ownAt (k := 0) rfl) rfl rfl rfl) ?_
  refine RWP.buildSlice (dst := (some 10)) (ty := 98) (g := none) (by kernel_rfl) rfl (t := 98) (len := 1) (parts := #[(0, (.tmp 9))]) (vs := [(0, (.agg #[(.int .i64 x19.kind_), (.int .i64 x19.at_), (.string ⟨(x19.text_).toArray⟩)]))]) (rfl) (E := 97) (cs := [(.int .i64 x19.kind_), (.int .i64 x19.at_), (.string ⟨(x19.text_).toArray⟩)]) (by kernel_rfl) hs38 (fun b39 w40 (hs41 : HS w0 F0 w40 F1 ((some b39, .cells ([(.int .i64 x19.kind_), (.int .i64 x19.at_), (.string ⟨(x19.text_).toArray⟩)] : List Value).toArray 97 (0, 0)) :: (some b30, (.cells #[(.int .i64 x19.kind_), (.int .i64 x19.at_), (.string ⟨(x19.text_).toArray⟩)] 97 (0, 0))) :: es6_0 :: (some b1, (.cells #[(.slice as6_0 s6.length ns6_0)] 98 (0, 0))) :: Rf36)) => ?_)
  have hr43 : Au Ag 97 F1 (some ⟨b39, 0, none⟩) 1 [x19] (some b39, .cells ([(.int .i64 x19.kind_), (.int .i64 x19.at_), (.string ⟨(x19.text_).toArray⟩)] : List Value).toArray 97 (0, 0)) := Sr ⟨rfl, rfl⟩ (by simp)
  obtain ⟨r44, hap45, h46⟩ : ∃ r44, EQ s6 [x19] = some r44 /\ some r44 = some q23 := ⟨_, h28, rfl⟩
  refine RWP.append (dst := (some 11)) (ty := 98) (g := none) (by kernel_rfl) rfl (x := (.tmp 8)) (y := (.tmp 10)) (t := 98) (t2 := 98) (by_ := 32) (z := (.agg #[(.int .i64 0), (.int .i64 0), (.string ⟨(([] : Sx)).toArray⟩)])) (a2 := (some ⟨b39, 0, none⟩)) (c2 := 1) (m := [x19]) (T := Ag) (E := 97) (a := as6_0) (cap := ns6_0) (l := s6) rfl rfl (by kernel_rfl) (by decide) (by kernel_rfl) (by kernel_rfl) rfl LY hs41 (k := 2) rfl hrs6_0 (Au.rd hs41 (k := 0) rfl hr43) (r := r44) hap45 (fun a47 n48 e49 w50 (hs51 : HS w0 F0 w50 F1 ((some b39, .cells ([(.int .i64 x19.kind_), (.int .i64 x19.at_), (.string ⟨(x19.text_).toArray⟩)] : List Value).toArray 97 (0, 0)) :: (some b30, (.cells #[(.int .i64 x19.kind_), (.int .i64 x19.at_), (.string ⟨(x19.text_).toArray⟩)] 97 (0, 0))) :: e49 :: (some b1, (.cells #[(.slice as6_0 s6.length ns6_0)] 98 (0, 0))) :: Rf36)) hr52 => ?_)
  refine Sg (ty := 0) (g := none) (by kernel_rfl) rfl (x := (.tmp 2)) (y := (.tmp 11)) (t := 98) (gg := false) (s := 1) (v := (.slice a47 r44.length n48)) (b := b1) (o := 0) (C := #[(.slice as6_0 s6.length ns6_0)]) rfl rfl (by kernel_rfl) hs51 (k := 3) rfl rfl rfl rfl (C' := #[(.slice a47 r44.length n48)]) rfl (fun w53 (hs54 : HS w0 F0 w53 F1 ((some b39, .cells ([(.int .i64 x19.kind_), (.int .i64 x19.at_), (.string ⟨(x19.text_).toArray⟩)] : List Value).toArray 97 (0, 0)) :: (some b30, (.cells #[(.int .i64 x19.kind_), (.int .i64 x19.at_), (.string ⟨(x19.text_).toArray⟩)] 97 (0, 0))) :: e49 :: (some b1, (.cells #[(.slice a47 r44.length n48)] 98 (0, 0))) :: Rf36)) => ?_)
  refine RY ?_
  refine Ap ?_
  have hs56 : HS w0 F0 w53 F1 (e49 :: (some b1, (.cells #[(.slice a47 r44.length n48)] 98 (0, 0))) :: Rf36) := (hs54.drop 0).drop 0
  obtain rfl := Aa h46
  exact ⟨rfl, F1, [e49, (some b1, (.cells #[(.slice a47 r44.length n48)] 98 (0, 0)))], hs56, (R6 _), ⟨a47, n48, e49, rfl, hr52⟩⟩
 ·
  rintro D58 w59 F2 _ hs60 le61 ⟨as10_0, ns10_0, es10_0, rfl, hrs10_0⟩
  have hs62 : HS w0 F0 w59 F2 [(some D58, (.deferred (some []))), es10_0, (some b1, (.cells #[(.slice as10_0 r14.length ns10_0)] 98 (0, 0)))] := hs60
  refine Ap ?_
  refine Ac ?_
  refine Sq ?_
  refine Rg [0, 1] ?_
  refine V 12 98 (Cb (t := 98) (x := (.tmp 2)) (b := b1) (o := 0) (g := false) (s := 1) (C := #[(.slice as10_0 r14.length ns10_0)]) (v := (.slice as10_0 r14.length ns10_0)) rfl (by kernel_rfl) (hs62.ownAt (k := 2) rfl) rfl rfl rfl) ?_
  refine V 4 98 (AA (x := (.tmp 12)) (v := (.slice as10_0 r14.length ns10_0)) rfl) ?_
  refine RY ?_
  refine Ac ?_
  refine CWP.ret (by kernel_rfl) ?_
  have hb66 := Sn hrs10_0
  obtain ⟨F3, hs63, le64, hs65⟩ : ∃ Fq, HS w0 F0 w59 Fq [(some D58, (.deferred (some []))), (some b1, (.cells #[(.slice as10_0 r14.length ns10_0)] 98 (0, 0)))] /\ R5 F2 Fq /\ SlA Ag Fq as10_0 r14 := HS.freezeRow hs62 (k := 1) rfl hrs10_0
  have hs67 := hs63.put (k := 0) rfl (.deferred none)
  have hs68 : HS w0 F0 (Ct w59 D58 (.deferred none)) F3 [(some b1, (.cells #[(.slice as10_0 r14.length ns10_0)] 98 (0, 0)))] := hs67.drop 0
  have hfin := Aa h16
  subst hfin
  exact .inr ⟨D58, rfl, hs63.ownAt (k := 0) rfl, (.slice as10_0 r14.length ns10_0), Av (l := [.tmp 4]) (by kernel_rfl) (vs := [(.slice as10_0 r14.length ns10_0)]) ⟨rfl, trivial⟩, (.slice as10_0 r14.length ns10_0), F3, rfl, hs68.clear, ⟨as10_0, ns10_0, rfl, hb66, hs65⟩⟩
theorem Ib : An Tryz.prog 132 := fun _ _ => by kernel_rfl
set_option maxRecDepth 100000 in
theorem Jd (w0 : World) (F0 : Mem) (hF : Sz w0 F0) (gf : FuncId) (cap : List Value) (m : ∀ {σ : Type}, (σ -> Aq -> Option (Bool × σ)) -> σ -> Option σ) (hgf : An Tryz.prog gf) (hseq : LH Tryz.prog gf cap F0 [] Mb N9 N7 m) (r : (List Aq)) (h : Ia m = some r) :
  Calls Tryz.prog 132 ([(.func (.func gf) #[] cap.toArray)] : List Value).toArray w0 (AU w0 F0 fun F' v => ∃ (aq0_0 : Sy) (nq0_0 : Nat), v = (.slice aq0_0 r.length nq0_0) /\ LC r.length nq0_0 /\ SlA Ag F' aq0_0 r) := by
 have hs0 := R7 hF
 refine Ea (n := 5) (c := B7 Tryz.f132) Tryz.func132 (by kernel_rfl) (by kernel_rfl) (by kernel_rfl) ?_
 refine Sq ?_
 refine Rg [0] ?_
 refine V 2 98 (AA (x := (.const (.slice none 0 0))) (v := (.slice none 0 0)) rfl) ?_
 refine RY ?_
 refine Ac ?_
 refine Sq ?_
 refine Rg [0, 1, 2] ?_
 refine V 3 162 (AJ (x := (.tmp 0)) (v := (.func (.func gf) #[] cap.toArray)) rfl) ?_
 refine RWP.call (dst := (some 4)) (ty := 98) (g := none) (by kernel_rfl) rfl (f0 := (.func 179)) (aos := #[(.const (.slice none 0 0)), (.tmp 3)]) (ats := #[98, 162]) (fid := 179) (first := #[]) (cap := #[]) (args := [.slice none 0 0, (.func (.func gf) #[] cap.toArray)]) rfl G5 rfl hs0 (HF w0 F0 hs0.pers gf cap m hgf hseq r h) ?_
 intro v F1 w1 hs1 le1 hp
 obtain ⟨a, n, rfl, hb, hs⟩ := hp
 refine V 2 98 (AA (x := (.tmp 4)) (v := (.slice a r.length n)) rfl) ?_
 refine RY ?_
 refine Ac ?_
 refine CWP.ret (by kernel_rfl) ?_
 exact ⟨rfl, (.slice a r.length n), Av (l := [.tmp 2]) (by kernel_rfl) (vs := [(.slice a r.length n)]) ⟨rfl, trivial⟩, _, F1, rfl, hs1, a, n, rfl, hb, hs⟩
theorem JN : An Tryz.prog 133 := fun _ _ => by kernel_rfl
set_option maxRecDepth 100000 in
theorem KE (w0 : World) (F0 : Mem) (hF : Sz w0 F0) (x0 : Sx) :
  Calls Tryz.prog 133 ([(.string ⟨(x0).toArray⟩)] : List Value).toArray w0 (AU w0 F0 fun F' v => ∃ (b1 b2 : Nat), v = .func (.func 181) #[] #[.pointer (some ⟨b1, 0, none⟩), .pointer (some ⟨b2, 0, none⟩)] /\ F' b1 = some (.cells #[(.string ⟨(x0).toArray⟩)] 9 (0, 0)) /\ F' b2 = some (.cells #[.func (.func 180) #[] #[.pointer (some ⟨b1, 0, none⟩)]] 193 (0, 0))) := by
 have hs0 := R7 hF
 refine Ea (n := 6) (c := B7 Tryz.f133) Tryz.func133 (by kernel_rfl) (by kernel_rfl) (by kernel_rfl) ?_
 refine Sq ?_
 refine Rg [0, 1] ?_
 refine RWP.box (dst := (some 1)) (ty := 0) (g := none) (by kernel_rfl) rfl (x := (.tmp 0)) (t := 9) (v := (.string ⟨(x0).toArray⟩)) rfl (C := #[(.string ⟨(x0).toArray⟩)]) rfl hs0 (fun b1 w1 hs1 => ?_)
 refine V 2 162 (AA (x := (.const .nilFunc)) (v := .nilFunc) rfl) ?_
 refine RY ?_
 refine Ac ?_
 refine Sq ?_
 refine Rg [0, 1, 2] ?_
 refine V 4 193 (CX (fn := .func 180) (first := #[]) (cap := #[.tmp 1]) (fl := []) (cl := [.pointer (some ⟨b1, 0, none⟩)]) rfl rfl) ?_
 refine Sf (dst := (some 3)) (ty := 0) (g := none) (by kernel_rfl) rfl (t := 193) (z := .nilFunc) (by kernel_rfl) (C := #[.nilFunc]) rfl hs1 (fun b2 w2 hs2 => ?_)
 refine Sg (ty := 0) (g := none) (by kernel_rfl) rfl (x := (.tmp 3)) (y := (.tmp 4)) (t := 193) (gg := false) (s := 1) (v := .func (.func 180) #[] #[.pointer (some ⟨b1, 0, none⟩)]) (b := b2) (o := 0) (C := #[.nilFunc]) rfl rfl (by kernel_rfl) hs2 (k := 0) rfl rfl rfl rfl (C' := #[.func (.func 180) #[] #[.pointer (some ⟨b1, 0, none⟩)]]) rfl (fun w3 (hs3 : HS w0 F0 w3 F0 [(some b2, .cells #[.func (.func 180) #[] #[.pointer (some ⟨b1, 0, none⟩)]] 193 (0, 0)), (some b1, .cells #[(.string ⟨(x0).toArray⟩)] 9 (0, 0))]) => ?_)
 refine RY ?_
 refine Ac ?_
 refine Sq ?_
 refine Rg [0, 1] ?_
 refine V 5 161 (CX (fn := .func 181) (first := #[]) (cap := #[.tmp 1, .tmp 3]) (fl := []) (cl := [.pointer (some ⟨b1, 0, none⟩), .pointer (some ⟨b2, 0, none⟩)]) rfl rfl) ?_
 refine V 2 162 (AA (x := (.tmp 5)) (v := .func (.func 181) #[] #[.pointer (some ⟨b1, 0, none⟩), .pointer (some ⟨b2, 0, none⟩)]) rfl) ?_
 refine RY ?_
 refine Ac ?_
 refine CWP.ret (by kernel_rfl) ?_
 obtain ⟨F1, hs4, le1, hF1⟩ : ∃ Fq, HS w0 F0 w3 Fq [(some b1, .cells #[(.string ⟨(x0).toArray⟩)] 9 (0, 0))] /\ R5 F0 Fq /\ Fq b2 = some _ := HS.freezeC hs3 (k := 0) rfl
 obtain ⟨F2, hs5, le2, hF2⟩ : ∃ Fq, HS w0 F0 w3 Fq [] /\ R5 F1 Fq /\ Fq b1 = some _ := HS.freezeC hs4 (k := 0) rfl
 exact ⟨rfl, _, Av (l := [.tmp 2]) (by kernel_rfl) (vs := [.func (.func 181) #[] #[.pointer (some ⟨b1, 0, none⟩), .pointer (some ⟨b2, 0, none⟩)]]) ⟨rfl, trivial⟩, _, F2, rfl, hs5, b1, b2, rfl, hF2, le2 _ _ hF1⟩
def EV (N : Nat) (x0 : Int) (x1 : Int) (x2 : Int) (z0 : Sx) : Int -> Option (BX Sx Int) := fun s24 =>
 ((bif (decide (s24 < (z0.length : Int))) then ((O7 z0 s24).bind fun c64 => (bif (decide (x1 <= c64)) then ((O7 z0 s24).bind fun c70 => some (decide (c70 <= x2))) else some false)) else some false).bind fun j51 => (bif j51 then some (.next (W64 (s24 + 1))) else some (.done s24)))
def Dy (N : Nat) (x0 : Int) (x1 : Int) (x2 : Int) (z0 : Sx) : Option Sx :=
 ((Br (EV N x0 x1 x2 z0) N x0).bind fun o => o.k (fun r => some r) (fun s34 => ((O5 z0 x0 s34).bind fun r79 => some r79)))
theorem Ie : An Tryz.prog 180 := fun _ _ => by kernel_rfl
theorem Jf (N : Nat) (w0 : World) (F0 : Mem) (hF : Sz w0 F0) (x0 : Int) (x1 : Int) (x2 : Int) (bz0 : Nat) (z0 : Sx) (hz0 : F0 bz0 = some (oc #[(.string ⟨(z0).toArray⟩)] 9)) (r : Sx) (h : Dy N x0 x1 x2 z0 = some r) :
  Calls Tryz.prog 180 ([(vi x0), (.int .u8 x1), (.int .u8 x2), (pt bz0 0)] : List Value).toArray w0 (AU w0 F0 fun F' v => v = (.string ⟨(r).toArray⟩)) := by
 have hs0 := R7 hF
 refine Go 34 Tryz.func180 ?_
 refine Sq (Rg [0] ?_)
 refine Vs 1 ?_
 refine Nss (Rg [0, 1] ?_)
 refine Vs 2 ?_
 refine Nss ?_
 obtain ⟨o21, ho22, h23⟩ := bind_some h
 refine Se (fun f w => ∃ (s34 : Int) (F2 : Mem), o21 = .done s34 /\ HS w0 F0 w F2 [] /\ R5 F0 F2 /\ FI f [] [(0, (vi x0)), (3, (pt bz0 0)), (8, (vi s34))]) ?_ ?_
 ·refine Bk ?_
  refine R4 (by kernel_rfl) (fun m f w => ∃ (s24 : Int) (F1 : Mem), Br (EV N x0 x1 x2 z0) m s24 = some o21 /\ HS w0 F0 w F1 [] /\ R5 F0 F1 /\ FI f [] [(0, (vi x0)), (1, (.int .u8 x1)), (2, (.int .u8 x2)), (3, (pt bz0 0)), (8, (vi s24))]) N ⟨x0, F0, ho22, hs0, (R6 _), fI⟩ ?_
  rintro m42 f w25 ⟨s24, F1, hit43, hs26, le27, ⟨_, rfl⟩⟩
  obtain ⟨m44, fl45, rfl, hb46, hnx47⟩ := A7 hit43
  refine Sq ?_
  refine Sq (Rg [0, 1, 2, 3, 4, 5, 6, 7, 8, 9, 10, 11, 12, 13, 14, 15, 16, 17] ?_)
  obtain ⟨j51, hj59, h60⟩ := bind_some hb46
  refine Sb (fun f w => ∃ (F3 : Mem), HS w0 F0 w F3 [] /\ R5 F1 F3 /\ FI f [] [(0, (vi x0)), (1, (.int .u8 x1)), (2, (.int .u8 x2)), (3, (pt bz0 0)), (8, (vi s24)), (27, (.bool j51))]) ?_ ?_
  ·refine Vs 1 ?_
   refine Ld (hs26.pers _ _ (le27 _ _ hz0)) ?_
   refine Vs 3 ?_
   refine Sp hj59 (fun hb61 h62 => ?_) (fun hb61 h63 => ?_)
   ·refine Vgs hb61 1 ?_
    refine Lg hb61 (hs26.pers _ _ (le27 _ _ hz0)) ?_
    refine Vgs hb61 1 ?_
    obtain ⟨c64, hr65, h66⟩ := bind_some h62
    refine Vg 18 5 4 true 14 hb61 (Kb (t := 9) (x := (.tmp 16)) (y := (.tmp 17)) (a := z0) (k := .i64) (i := s24) (v := c64) rfl rfl (by kernel_rfl) hr65) ?_
    refine Vgs hb61 1 ?_
    refine Pk1 hb61 ?_
    refine Vs 1 ?_
    refine Sp h66 (fun hb67 h68 => ?_) (fun hb67 h69 => ?_)
    ·refine Lg hb67 (hs26.pers _ _ (le27 _ _ hz0)) ?_
     refine Vgs hb67 1 ?_
     obtain ⟨c70, hr71, h72⟩ := bind_some h68
     refine Vg 24 5 11 true 21 hb67 (Kb (t := 9) (x := (.tmp 22)) (y := (.tmp 23)) (a := z0) (k := .i64) (i := s24) (v := c70) rfl rfl (by kernel_rfl) hr71) ?_
     refine Vgs hb67 2 ?_
     refine Pk1 hb67 ?_
     obtain rfl := Aa h72
     exact RY ⟨rfl, F1, hs26, (R6 _), fI⟩
    ·refine Ss hb67 5 ?_
     refine Pk0 hb67 ?_
     obtain rfl := Aa h69
     exact RY ⟨rfl, F1, hs26, (R6 _), fI⟩
   ·refine Ss hb61 5 ?_
    refine Pk0 hb61 ?_
    refine Vs 1 ?_
    refine Ss (rfl : false = false) 5 ?_
    refine Pk0 (rfl : false = false) ?_
    obtain rfl := Aa h63
    exact RY ⟨rfl, F1, hs26, (R6 _), fI⟩
  ·rintro f w48 ⟨F3, hs49, le50, ⟨_, rfl⟩⟩
   refine Ac ?_
   refine Cd h60 (fun hb73 h74 => ?_) (fun hb73 h75 => ?_)
   ·refine Sc ?_
    refine Ac ?_
    refine Bk ?_
    refine Rg [0, 1, 2] ?_
    refine Vs 3 ?_
    refine RY ?_
    refine Ap ?_
    have hn76 := A0 h74 hnx47
    exact ⟨m44, Nat.lt_succ_self _, (W64 (s24 + 1)), F3, hn76, hs49, (le27.trans le50), fI⟩
   ·refine Ex ?_
    refine AC ?_
    refine AC ?_
    refine AV rfl ?_
    have ho77 := Bd h75 hnx47
    exact .inl ⟨rfl, s24, F3, ho77, hs49, (le27.trans le50), fI⟩
 ·rintro f w35 ⟨s34, F2, rfl, hs36, le37, ⟨_, rfl⟩⟩
  have h78 := Cu h23
  refine Ac ?_
  refine Sq (Rg [0, 1, 2, 3, 4] ?_)
  refine Ld (hs36.pers _ _ (le37 _ _ hz0)) ?_
  refine Vs 2 ?_
  obtain ⟨r79, hr80, h81⟩ := bind_some h78
  refine V 33 9 (Ka (t := 9) (x := (.tmp 30)) (lo := (some (.tmp 31))) (hi := (some (.tmp 32))) (a := z0) (il := x0) (ih := s34) (v := r79) rfl (by kernel_rfl) rfl rfl hr80) ?_
  refine Vs 1 ?_
  refine Nt ?_
  refine Rt ?_
  obtain rfl := Aa h81
  exact Re [(.string ⟨(r79).toArray⟩)] hs36 rfl
def EU {σ : Type} (N : Nat) (y : (σ -> Aq -> Option (Bool × σ))) (z0 : Sx) (z1 : (Int -> Int -> Int -> Option Sx)) (s : σ) : (Int × σ) -> Option (BX σ (Int × σ)) := fun s4 =>
 (bif (decide (s4.1 < (z0.length : Int))) then ((O5 z0 s4.1 (W64 (s4.1 + 1))).bind fun r33 => ((O7 z0 s4.1).bind fun c41 => (bif ((c41 == 32) || (c41 == 9)) then some (.next ((W64 (s4.1 + 1)), s4.2)) else ((bif ((decide (c41 >= 48)) && (decide (c41 <= 57))) then ((z1 s4.1 48 57).bind fun r87 => some (1, r87)) else ((bif ((decide (c41 >= 97)) && (decide (c41 <= 122))) then ((z1 s4.1 97 122).bind fun r126 => some (2, r126)) else ((O5 z0 s4.1 (z0.length : Int)).bind fun r138 => ((strings_HasPrefix N r138 ([61, 62] : Sx)).bind fun r141 => ((bif r141 then some (3, ([61, 62] : Sx)) else ((strings_IndexByte N ([40, 41, 44, 58, 61, 60, 43, 45, 42, 10] : Sx) c41).bind fun r168 => ((bif (decide (r168 >= 0)) then some 3 else some 4).bind fun j179 => some (j179, r33)))).bind fun j152 => some (j152.1, j152.2))))).bind fun j114 => some (j114.1, j114.2))).bind fun j75 => ((y s4.2 ({ kind_ := j75.1, at_ := s4.1, text_ := j75.2 } : Aq)).bind fun q193 => (bif (!q193.1) then some (.ret q193.2) else some (.next ((W64 (s4.1 + (j75.2.length : Int))), q193.2)))))))) else some (.done (s4.1, s4.2)))
def EF {σ : Type} (N : Nat) (y : σ -> Aq -> Option (Bool × σ)) (z0 : Sx) (z1 : (Int -> Int -> Int -> Option Sx)) (s : σ) : Option σ :=
 ((Br (EU N y z0 z1 s) N (0, s)).bind fun o => o.k (fun r => some r) (fun s15 => ((y s15.2 ({ kind_ := 0, at_ := (z0.length : Int), text_ := ([] : Sx) } : Aq)).bind fun q208 => some q208.2)))
theorem Ic : An Tryz.prog 181 := fun _ _ => by kernel_rfl
theorem Je (N : Nat) (F0 : Mem) (z0 : Sx) (bz0 : Nat) (hz0 : F0 bz0 = some (oc #[(.string ⟨(z0).toArray⟩)] 9)) (z1 : (Int -> Int -> Int -> Option Sx)) (gz1_0 : FuncId) (fz1_0 : List Value) (kz1_0 : List Value) (hoz1_0 : An Tryz.prog gz1_0) (hpz1_0 : On F0 gz1_0 fz1_0 kz1_0 z1) (bz1 : Nat) (hz1 : F0 bz1 = some (oc #[(.func (.func gz1_0) fz1_0.toArray kz1_0.toArray)] 193)) :
  LH Tryz.prog 181 [(pt bz0 0), (pt bz1 0)] F0 [] Mb N9 N7 (fun {_} y s => EF N y z0 z1 s) := by
 intro σ wb w0 Fb F1 l y J s r Lf le01 hJm hs0 hJ hY h
 have hs0 : HS wb Fb w0 F1 Lf := hs0
 refine Ea (n := 80) (c := B7 Tryz.f181) Tryz.func181 (by kernel_rfl) (by kernel_rfl) (by kernel_rfl) ?_
 refine Sq ?_
 refine Sq (Rg [0] ?_)
 refine Vs 1 ?_
 refine Nt ?_
 obtain ⟨o1, ho2, h3⟩ := bind_some h
 refine Se (fun f w => ∃ (s15 : (Int × σ)) (F3 : Mem) (Lf19 : Own), o1 = .done s15 /\ HS wb Fb w F3 Lf19 /\ R5 F1 F3 /\ FI f [] [(0, (.func (.yield l) #[] #[])), (1, (pt bz0 0))] /\ J s15.2 F3 Lf19) ?_ ?_
 ·refine Bk ?_
  refine R4 (by kernel_rfl) (fun m f w => ∃ (s4 : (Int × σ)) (F2 : Mem) (Lf8 : Own), Br (EU N y z0 z1 s) m s4 = some o1 /\ HS wb Fb w F2 Lf8 /\ R5 F1 F2 /\ FI f [] [(0, (.func (.yield l) #[] #[])), (1, (pt bz0 0)), (2, (pt bz1 0)), (4, (vi s4.1))] /\ J s4.2 F2 Lf8) N ⟨(0, s), F1, Lf, ho2, hs0, (R6 _), fI, hJ⟩ ?_
  rintro m24 f w5 ⟨s4, F2, Lf8, hit25, hs6, le7, ⟨_, rfl⟩, hJ9⟩
  obtain ⟨m26, fl27, rfl, hb28, hnx29⟩ := A7 hit25
  refine Sq ?_
  refine Sq (Rg [0, 1, 2, 3] ?_)
  refine Vs 1 ?_
  refine Ld (hs6.pers _ _ ((le01.trans le7) _ _ hz0)) ?_
  refine Vs 1 ?_
  refine Vs 1 ?_
  refine Nt ?_
  refine Cd hb28 (fun hb30 h31 => ?_) (fun hb30 h32 => ?_)
  ·refine Sc ?_
   refine Ac ?_
   refine Bk ?_
   refine Sq (Rg [0, 1, 2, 3, 4, 5, 6, 7, 8] ?_)
   refine Vs 1 ?_
   refine Ld (hs6.pers _ _ ((le01.trans le7) _ _ hz0)) ?_
   refine Vs 1 ?_
   refine Vs 1 ?_
   refine Vs 1 ?_
   obtain ⟨r33, hr34, h35⟩ := bind_some h31
   refine V 16 9 (Ka (t := 9) (x := (.tmp 12)) (lo := (some (.tmp 13))) (hi := (some (.tmp 15))) (a := z0) (il := s4.1) (ih := (W64 (s4.1 + 1))) (v := r33) rfl (by kernel_rfl) rfl rfl hr34) ?_
   refine Vs 1 ?_
   refine Al' 97 #[(vi 0), (vi 0), (.string ⟨(([] : Sx)).toArray⟩)] hs6 (fun b36 w37 hs38 => ?_)
   refine St0 #[(vi 4), (vi s4.1), (.string ⟨(r33).toArray⟩)] hs38 (fun w39 hs40 => ?_)
   refine Nss ?_
   refine Sq (Rg [0, 1, 2, 3] ?_)
   refine Ld (hs40.pers _ _ ((le01.trans le7) _ _ hz0)) ?_
   refine Vs 1 ?_
   obtain ⟨c41, hr42, h43⟩ := bind_some h35
   refine V 20 5 (Kb (t := 9) (x := (.tmp 18)) (y := (.tmp 19)) (a := z0) (k := .i64) (i := s4.1) (v := c41) rfl rfl (by kernel_rfl) hr42) ?_
   refine Vs 1 ?_
   refine Nt ?_
   refine Bk ?_
   refine Sq (Rg [0, 1, 2, 3, 4, 5, 6] ?_)
   refine Sb (fun f w => ∃ (F4 : Mem), HS wb Fb w F4 ((sb b36 #[(vi 4), (vi s4.1), (.string ⟨(r33).toArray⟩)] 97) :: Lf8) /\ R5 F2 F4 /\ FI f [] [(0, (.func (.yield l) #[] #[])), (1, (pt bz0 0)), (2, (pt bz1 0)), (4, (vi s4.1)), (5, (pt b36 0)), (6, (.int .u8 c41)), (21, (.bool ((c41 == 32) || (c41 == 9))))]) ?_ ?_
   ·refine Vs 1 ?_
    refine Vs 1 ?_
    refine Vs 1 ?_
    refine Sa (c41 == 32) (fun hb55 => ?_) (fun hb55 => ?_)
    ·refine Ss hb55 1 ?_--2
     refine Ss hb55 1 ?_--2
     refine Pk1 hb55 ?_
     refine Vs 1 ?_
     exact RY ⟨rfl, F2, hs40, (R6 _), (fJ ⟨rfl, rfl, rfl, rfl, rfl, rfl, (congrArg Value.bool (Gs hb55 rfl)), trivial⟩)⟩
    ·refine Vgs hb55 1 ?_--2
     refine Vgs hb55 1 ?_--2
     refine Pk0 hb55 ?_
     refine Vs 1 ?_
     exact RY ⟨rfl, F2, hs40, (R6 _), (fJ ⟨rfl, rfl, rfl, rfl, rfl, rfl, (congrArg Value.bool (Cc hb55 rfl)), trivial⟩)⟩
   ·rintro f w44 ⟨F4, hs45, le46, ⟨_, rfl⟩⟩
    refine Ac ?_
    refine Cd h43 (fun hb56 h57 => ?_) (fun hb56 h58 => ?_)
    ·refine Sq (Rg [0, 1, 2] ?_)
     refine Vs 1 ?_
     refine Vs 1 ?_
     refine Vs 1 ?_
     refine Nt ?_
     refine Ex ?_
     refine M4 (by decide) ?_
     refine AC ?_
     refine AV rfl ?_
     have hn59 := A0 h57 hnx29
     exact ⟨m26, Nat.lt_succ_self _, ((W64 (s4.1 + 1)), s4.2), F4, Lf8, hn59, hs45.dr0, (le7.trans le46), fI, (hJm _ _ _ _ hJ9 le46)⟩
    ·refine Sq (Rg [0, 1, 2, 3, 4, 5, 6] ?_)
     refine Sb (fun f w => ∃ (F5 : Mem), HS wb Fb w F5 ((sb b36 #[(vi 4), (vi s4.1), (.string ⟨(r33).toArray⟩)] 97) :: Lf8) /\ R5 F4 F5 /\ FI f [] [(0, (.func (.yield l) #[] #[])), (1, (pt bz0 0)), (2, (pt bz1 0)), (4, (vi s4.1)), (5, (pt b36 0)), (6, (.int .u8 c41)), (30, (.bool ((decide (c41 >= 48)) && (decide (c41 <= 57)))))]) ?_ ?_
     ·refine Vs 1 ?_
      refine Vs 1 ?_
      refine Vs 1 ?_
      refine Sa (decide (c41 >= 48)) (fun hb71 => ?_) (fun hb71 => ?_)
      ·refine Vgs hb71 1 ?_--2
       refine Vgs hb71 1 ?_--2
       refine Pk1 hb71 ?_
       refine Vs 1 ?_
       exact RY ⟨rfl, F4, hs45, (R6 _), (fJ ⟨rfl, rfl, rfl, rfl, rfl, rfl, (congrArg Value.bool (Dc hb71 rfl)), trivial⟩)⟩
      ·refine Ss hb71 1 ?_--2
       refine Ss hb71 1 ?_--2
       refine Pk0 hb71 ?_
       refine Vs 1 ?_
       exact RY ⟨rfl, F4, hs45, (R6 _), (fJ ⟨rfl, rfl, rfl, rfl, rfl, rfl, (congrArg Value.bool (E8 hb71 rfl)), trivial⟩)⟩
     ·rintro f w60 ⟨F5, hs61, le62, ⟨_, rfl⟩⟩
      refine Ac ?_
      obtain ⟨j75, hj82, h83⟩ := bind_some h58
      refine Se (fun f w => ∃ (F6 : Mem), HS wb Fb w F6 ((sb b36 #[(vi j75.1), (vi s4.1), (.string ⟨(j75.2).toArray⟩)] 97) :: Lf8) /\ R5 F5 F6 /\ FI f [] [(0, (.func (.yield l) #[] #[])), (1, (pt bz0 0)), (2, (pt bz1 0)), (4, (vi s4.1)), (5, (pt b36 0))]) ?_ ?_
      ·refine Cd hj82 (fun hb84 h85 => ?_) (fun hb84 h86 => ?_)
       ·refine Rg [0, 1, 2, 3, 4, 5, 6] ?_
        refine Ld (hs61.pers _ _ ((((le01.trans le7).trans le46).trans le62) _ _ hz1)) ?_
        refine Vs 1 ?_
        obtain ⟨r87, hr88, h89⟩ := bind_some h85
        refine Cq hoz1_0 hs61 (hpz1_0 w60 F5 s4.1 48 57 _ (((le01.trans le7).trans le46).trans le62) hs61.pers hr88) ?_
        rintro _ F7 w91 hs92 le93 rfl
        refine Vs 1 ?_
        refine St0 #[(vi 1), (vi s4.1), (.string ⟨(r33).toArray⟩)] hs92 (fun w95 hs96 => ?_)
        refine Vs 1 ?_
        refine St0 #[(vi 1), (vi s4.1), (.string ⟨(r87).toArray⟩)] hs96 (fun w97 hs98 => ?_)
        refine RY ?_
        obtain rfl := Aa h89
        exact .inl ⟨rfl, F7, hs98, le93, fI⟩
       ·refine Sq (Rg [0, 1, 2, 3, 4, 5, 6] ?_)
        refine Sb (fun f w => ∃ (F8 : Mem), HS wb Fb w F8 ((sb b36 #[(vi 4), (vi s4.1), (.string ⟨(r33).toArray⟩)] 97) :: Lf8) /\ R5 F5 F8 /\ FI f [] [(0, (.func (.yield l) #[] #[])), (1, (pt bz0 0)), (2, (pt bz1 0)), (4, (vi s4.1)), (5, (pt b36 0)), (6, (.int .u8 c41)), (42, (.bool ((decide (c41 >= 97)) && (decide (c41 <= 122)))))]) ?_ ?_
        ·refine Vs 1 ?_
         refine Vs 1 ?_
         refine Vs 1 ?_
         refine Sa (decide (c41 >= 97)) (fun hb110 => ?_) (fun hb110 => ?_)
         ·refine Vgs hb110 1 ?_--2
          refine Vgs hb110 1 ?_--2
          refine Pk1 hb110 ?_
          refine Vs 1 ?_
          exact RY ⟨rfl, F5, hs61, (R6 _), (fJ ⟨rfl, rfl, rfl, rfl, rfl, rfl, (congrArg Value.bool (Dc hb110 rfl)), trivial⟩)⟩
         ·refine Ss hb110 1 ?_--2
          refine Ss hb110 1 ?_--2
          refine Pk0 hb110 ?_
          refine Vs 1 ?_
          exact RY ⟨rfl, F5, hs61, (R6 _), (fJ ⟨rfl, rfl, rfl, rfl, rfl, rfl, (congrArg Value.bool (E8 hb110 rfl)), trivial⟩)⟩
        ·rintro f w99 ⟨F8, hs100, le101, ⟨_, rfl⟩⟩
         refine Ac ?_
         obtain ⟨j114, hj121, h122⟩ := bind_some h86
         refine Se (fun f w => ∃ (F9 : Mem), HS wb Fb w F9 ((sb b36 #[(vi j114.1), (vi s4.1), (.string ⟨(j114.2).toArray⟩)] 97) :: Lf8) /\ R5 F8 F9 /\ FI f [] [(0, (.func (.yield l) #[] #[])), (1, (pt bz0 0)), (2, (pt bz1 0)), (4, (vi s4.1)), (5, (pt b36 0))]) ?_ ?_
         ·refine Cd hj121 (fun hb123 h124 => ?_) (fun hb123 h125 => ?_)
          ·refine Rg [0, 1, 2, 3, 4, 5, 6] ?_
           refine Ld (hs100.pers _ _ (((((le01.trans le7).trans le46).trans le62).trans le101) _ _ hz1)) ?_
           refine Vs 1 ?_
           obtain ⟨r126, hr127, h128⟩ := bind_some h124
           refine Cq hoz1_0 hs100 (hpz1_0 w99 F8 s4.1 97 122 _ ((((le01.trans le7).trans le46).trans le62).trans le101) hs100.pers hr127) ?_
           rintro _ F10 w130 hs131 le132 rfl
           refine Vs 1 ?_
           refine St0 #[(vi 2), (vi s4.1), (.string ⟨(r33).toArray⟩)] hs131 (fun w134 hs135 => ?_)
           refine Vs 1 ?_
           refine St0 #[(vi 2), (vi s4.1), (.string ⟨(r126).toArray⟩)] hs135 (fun w136 hs137 => ?_)
           refine RY ?_
           obtain rfl := Aa h128
           exact .inl ⟨rfl, F10, hs137, le132, fI⟩
          ·refine Sq (Rg [0, 1, 2, 3, 4] ?_)
           refine Ld (hs100.pers _ _ (((((le01.trans le7).trans le46).trans le62).trans le101) _ _ hz0)) ?_
           refine Vs 1 ?_
           obtain ⟨r138, hr139, h140⟩ := bind_some h125
           refine V 57 9 (Ka (t := 9) (x := (.tmp 55)) (lo := (some (.tmp 56))) (hi := none) (a := z0) (il := s4.1) (ih := (z0.length : Int)) (v := r138) rfl (by kernel_rfl) rfl rfl hr139) ?_
           obtain ⟨r141, hr142, h143⟩ := bind_some h140
           refine Cl' Gy hs100 (G7 N w99 F8 hs100.pers r138 (([61, 62] : Sx)) _ hr142) ?_
           rintro _ F11 w145 hs146 le147 rfl
           refine Vs 1 ?_
           refine Nt ?_
           obtain ⟨j152, hj159, h160⟩ := bind_some h143
           refine Se (fun f w => ∃ (F12 : Mem), HS wb Fb w F12 ((sb b36 #[(vi j152.1), (vi s4.1), (.string ⟨(j152.2).toArray⟩)] 97) :: Lf8) /\ R5 F11 F12 /\ FI f [] [(0, (.func (.yield l) #[] #[])), (1, (pt bz0 0)), (2, (pt bz1 0)), (4, (vi s4.1)), (5, (pt b36 0))]) ?_ ?_
           ·refine Cd hj159 (fun hb161 h162 => ?_) (fun hb161 h163 => ?_)
            ·refine Rg [0, 1, 2, 3] ?_
             refine Vs 1 ?_
             refine St0 #[(vi 3), (vi s4.1), (.string ⟨(r33).toArray⟩)] hs146 (fun w164 hs165 => ?_)
             refine Vs 1 ?_
             refine St0 #[(vi 3), (vi s4.1), (.string ⟨(([61, 62] : Sx)).toArray⟩)] hs165 (fun w166 hs167 => ?_)
             refine RY ?_
             obtain rfl := Aa h162
             exact .inl ⟨rfl, F11, hs167, (R6 _), fI⟩
            ·refine Sq (Rg [0, 1, 2, 3] ?_)
             refine Vs 1 ?_
             obtain ⟨r168, hr169, h170⟩ := bind_some h163
             refine Cl' Gx hs146 (G6 N w145 F11 hs146.pers (([40, 41, 44, 58, 61, 60, 43, 45, 42, 10] : Sx)) c41 _ hr169) ?_
             rintro _ F13 w172 hs173 le174 rfl
             refine Vs 1 ?_
             refine Vs 1 ?_
             refine Nt ?_
             obtain ⟨j179, hj186, h187⟩ := bind_some h170
             refine Se (fun f w => ∃ (F14 : Mem), HS wb Fb w F14 ((sb b36 #[(vi j179), (vi s4.1), (.string ⟨(r33).toArray⟩)] 97) :: Lf8) /\ R5 F13 F14 /\ FI f [] [(0, (.func (.yield l) #[] #[])), (1, (pt bz0 0)), (2, (pt bz1 0)), (4, (vi s4.1)), (5, (pt b36 0))]) ?_ ?_
             ·refine Cd hj186 (fun hb188 h189 => ?_) (fun hb188 h190 => ?_)
              ·refine Rg [0, 1] ?_
               refine Vs 1 ?_
               refine St0 #[(vi 3), (vi s4.1), (.string ⟨(r33).toArray⟩)] hs173 (fun w191 hs192 => ?_)
               refine RY ?_
               obtain rfl := Aa h189
               exact .inl ⟨rfl, F13, hs192, (R6 _), fI⟩
              ·refine Sc ?_
               obtain rfl := Aa h190
               exact .inl ⟨rfl, F13, hs173, (R6 _), fI⟩
             ·rintro f w176 ⟨F14, hs177, le178, ⟨_, rfl⟩⟩
              obtain rfl := Aa h187
              exact .inl ⟨rfl, F14, hs177, (le174.trans le178), fI⟩
           ·rintro f w149 ⟨F12, hs150, le151, ⟨_, rfl⟩⟩
            obtain rfl := Aa h160
            exact .inl ⟨rfl, F12, hs150, (le147.trans le151), fI⟩
         ·rintro f w111 ⟨F9, hs112, le113, ⟨_, rfl⟩⟩
          obtain rfl := Aa h122
          exact .inl ⟨rfl, F9, hs112, (le101.trans le113), fI⟩
      ·rintro f w72 ⟨F6, hs73, le74, ⟨_, rfl⟩⟩
       refine Ap ?_
       refine Ac ?_
       refine Sq (Rg [0, 1, 2, 3, 4, 5] ?_)
       refine Vs 1 ?_
       refine Vs 1 ?_
       refine Ld hs73.at0 ?_
       refine Vs 1 ?_
       refine Vs 1 ?_
       refine Vs 1 ?_
       refine Nss (Rg [0, 1, 2, 3] ?_)
       refine Vs 1 ?_
       refine Ld hs73.at0 ?_
       obtain ⟨q193, hq194, h195⟩ := bind_some h83
       refine RWP.yield (dst := (some 73)) (ty := 4) (g := none) (by kernel_rfl) rfl (f0 := (.tmp 71)) (aos := #[(.tmp 72)]) (ats := #[97]) (l := l) (args := [(.agg #[(vi j75.1), (vi s4.1), (.string ⟨(j75.2).toArray⟩)])]) rfl rfl (hY s4.2 ({ kind_ := j75.1, at_ := s4.1, text_ := j75.2 } : Aq) w72 F6 [(sb b36 #[(vi j75.1), (vi s4.1), (.string ⟨(j75.2).toArray⟩)] 97)] Lf8 q193 (((le7.trans le46).trans le62).trans le74) trivial (hJm _ _ _ _ hJ9 ((le46.trans le62).trans le74)) hs73 hq194) ?_
       rintro _ w196 ⟨F15, Lf200, rfl, hs197, le198, hJ199⟩
       have hs201 : HS wb Fb w196 F15 ((sb b36 #[(vi j75.1), (vi s4.1), (.string ⟨(j75.2).toArray⟩)] 97) :: Lf200) := hs197
       refine ⟨_, rfl, ?_⟩
       refine Vs 1 ?_
       refine Nt ?_
       refine Cd h195 (fun hb202 h203 => ?_) (fun hb202 h204 => ?_)
       ·refine Rt ?_
        refine Ah ?_
        refine Af ?_
        refine Ah ?_
        have hret := Cf h203 hnx29
        subst hret
        refine .inr ?_
        refine Af ?_
        have hfin := Aa h3
        subst hfin
        exact ⟨rfl, .tuple #[], Av (l := []) (by kernel_rfl) (vs := []) trivial, F15, Lf200, rfl, hs201.dr0, ((((le7.trans le46).trans le62).trans le74).trans le198), hJ199⟩
       ·refine Sc ?_
        refine Ap ?_
        have hn205 := A0 h204 hnx29
        exact ⟨m26, Nat.lt_succ_self _, ((W64 (s4.1 + (j75.2.length : Int))), q193.2), F15, Lf200, hn205, hs201.dr0, ((((le7.trans le46).trans le62).trans le74).trans le198), fI, hJ199⟩
  ·refine Ex ?_
   refine AC ?_
   refine AC ?_
   refine AV rfl ?_
   have ho206 := Bd h32 hnx29
   exact .inl ⟨rfl, (s4.1, s4.2), F2, Lf8, ho206, hs6, le7, fI, hJ9⟩
 ·rintro f w16 ⟨s15, F3, Lf19, rfl, hs17, le18, ⟨_, rfl⟩, hJ20⟩
  have h207 := Cu h3
  refine Ac ?_
  refine Rg [0, 1, 2, 3, 4] ?_
  refine Vs 1 ?_
  refine Ld (hs17.pers _ _ ((le01.trans le18) _ _ hz0)) ?_
  refine Vs 1 ?_
  refine Vs 1 ?_
  obtain ⟨q208, hq209, h210⟩ := bind_some h207
  refine RWP.yield (dst := (some 79)) (ty := 4) (g := none) (by kernel_rfl) rfl (f0 := (.tmp 75)) (aos := #[(.tmp 78)]) (ats := #[97]) (l := l) (args := [(.agg #[(vi 0), (vi (z0.length : Int)), (.string ⟨(([] : Sx)).toArray⟩)])]) rfl rfl (hY s15.2 ({ kind_ := 0, at_ := (z0.length : Int), text_ := ([] : Sx) } : Aq) w16 F3 [] Lf19 q208 le18 trivial hJ20 hs17 hq209) ?_
  rintro _ w211 ⟨F16, Lf215, rfl, hs212, le213, hJ214⟩
  have hs216 : HS wb Fb w211 F16 Lf215 := hs212
  refine ⟨_, rfl, ?_⟩
  refine RY ?_
  have hfin := Aa h210
  subst hfin
  exact ⟨rfl, .tuple #[], Av (l := []) (by kernel_rfl) (vs := []) trivial, F16, Lf215, rfl, hs216, (le18.trans le213), hJ214⟩
section
variable {P : Program} {ro : Option Nat} {n : Nat} {R : Array Oper} {Q : Exit -> Fr -> World -> Prop} {w w0 : World} {F0 F : Mem} {L : Own} {f : Fr} {i : Nat} {rest : List Nat} {dst : Option Nat} {ty : TypeId} {g : Option (Nat × Bool)} {ρ : Operand -> Value}
theorem Nn {x : Operand} {q : FuncId} {cap : Array Value} {ats : Array TypeId} (hx : ρ x = .func (.func q) #[] cap) :
  (Am ρ (.defer { callee := .value x, args := #[], argTypes := ats }) ty).run P w = .ok (.defer { target := .fn (.func q) cap, args := #[] }) w := by
 have e : Am ρ (.defer { callee := .value x, args := #[], argTypes := ats }) ty = (do pure (Next.defer (<- Deferred.ofValue (ρ x) (Array.map ρ #[])))) := rfl
 rw [e, hx]
 simp [Deferred.ofValue]
theorem RWP.defer0 {x : Operand} {q : FuncId} {cap : Array Value} {ats : Array TypeId} (ho : opq R i = some (none, .defer { callee := .value x, args := #[], argTypes := ats }, ty, g)) (hg : gd R f g = true) (hx : fev f x = .func (.func q) #[] cap)
  (k : RWP P none n R Q rest ⟨f.v, { target := .fn (.func q) cap, args := #[] } :: f.d⟩ w) : RWP P none n R Q (i :: rest) f w := by
 intro hok a ha
 obtain ⟨o, hR, hd, hop, hty, hgd⟩ := B6 ho
 rw [wpOpsIn]
 simp only [hR]
 rw [ha.wanted R o, hgd, hg]
 simp only [if_true]
 refine ⟨Bl, ?_⟩
 show o.uponIn (FW none) 0 P a _ _ ((execOp a.eval o).run P w)
 rw [B1, ha.evalF, hop, hty, Nn hx]
 simp only [Oper.uponIn]
 rw [hd]
 exact k hok _ ⟨ha.size, ha.at_, by simp [Act.put, ha.defers]⟩
theorem JD {x : Operand} {t q : TypeId} {v : Value} (hx : ρ x = .iface q v) (hu : HW P q = true) :
  (Am ρ (.typeAssert x t q true) ty).run P w = .ok (.value (.tuple #[v, .bool true])) w := by
 have e : Am ρ (.typeAssert x t q true) ty = (do pure (Next.value (<- Instr.typeAssert (ρ x) t q true))) := rfl
 rw [e, hx]
 unfold HW at hu
 split at hu
 ·cases hu
 ·rename_i d h1 h2
  cases d <;> first | exact (h1 _ rfl).elim | simp [Instr.typeAssert, run_underlying h2, Result.andThen]
 ·cases hu
theorem FR {ops : Array Oper} {QS : Exit -> Act -> List Frame -> World -> Prop} {a : Act} {cs : List Frame} {d d2 : Nat} {ty ty2 : TypeId}
  (ho : opq ops 0 = some (some d, .call { callee := .builtin .recover, args := #[], argTypes := #[] }, ty, none)) (ho2 : opq ops 1 = some (some d2, .assign (.tmp d), ty2, none)) (hl : ops.size = 2) (hsz : d < a.tmps.size)
  (h : match recoverD cs with | some (v, cs') => QS .normal ((a.put (some d) v).put (some d2) v) cs' w | none => QS .normal ((a.put (some d) .nilIface).put (some d2) .nilIface) cs w) : wpOpsS P ops QS (List.range ops.size) a cs w := by
 rw [hl]
 obtain ⟨o, hR, hd, hop, hty, hgd⟩ := B6 ho
 obtain ⟨o2, hR2, hd2, hop2, hty2, hgd2⟩ := B6 ho2
 show wpOpsS P ops QS [0, 1] a cs w
 have step2 : ∀ (v : Value) (cs' : List Frame), QS .normal ((a.put (some d) v).put (some d2) v) cs' w -> wpOpsS P ops QS [1] (a.put (some d) v) cs' w := by
  intro v cs' hq
  simp only [wpOpsS, hR2]
  have hw : ∀ y, Region.wanted o2 y = true := fun y => by unfold Region.wanted; rw [hgd2]
  rw [if_pos (hw _)]
  have hev : (a.put (some d) v).eval (.tmp d) = v := by
   simp [Act.eval, Act.put, hsz]
  have hx : (execOp (a.put (some d) v).eval o2).run P w = .ok (.value v) w := by
   rw [B1, hop2]
   exact AA (ρ := (a.put (some d) v).eval) hev
  rw [hx]
  simp only [Oper.upon]
  rw [hd2]; exact hq
 rw [wpOpsS]
 simp only [hR]
 have hw : Region.wanted o (yielded ops a.tmps) = true := by unfold Region.wanted; rw [hgd]
 rw [if_pos hw]
 have hx : (execOp a.eval o).run P w = .ok .recover w := by rw [B1, hop]; rfl
 rw [hx]
 simp only
 cases hr : recoverD cs with
 | none => rw [hr] at h; simp only at h ⊢; rw [hd]; exact step2 _ _ h
 | some p => obtain ⟨v, cs'⟩ := p; rw [hr] at h; simp only at h ⊢; rw [hd]; exact step2 _ _ h
theorem Qy {c : Code} {a : Act} {cs : List Frame} {Q' : Exit -> Fr -> World -> Prop} {QS : Exit -> Act -> List Frame -> World -> Prop} (h : CWP P none n c Q' f w) (hf : DF n f a)
  (hq : ∀ e a' w', lq n Q' e a' w' -> QS e a' cs w') : c.wpS P QS a cs w := wpS_of_wp (wp_mono (wpIn_wide.1 (h a hf)) hq)
theorem Pz {args : List Value} (hsz : decide (args.length <= n) = true) : DF n (f0 args) { tmps := args.toArray ++ Array.replicate (n - args.toArray.size) undef, defers := [] } := by
 have hsz' : args.length <= n := by simpa using hsz
 refine ⟨?_, ?_, rfl⟩
 ·simp; omega
 ·intro i
  simp only [f0]
  rw [Array.getD_eq_getD_getElem?]
  by_cases hi : i < args.length
  ·simp [Array.getElem?_append, hi]
  ·rw [Array.getElem?_append_right (by simp; omega)]
   rw [List.getD_eq_getElem?_getD, List.getElem?_eq_none (by omega)]
   simp only [List.getElem?_toArray, Array.getElem?_replicate]
   split <;> rfl
end
section
variable {wb w : World} {Fb F : Mem} {Lf : Own}
theorem Qr : ∃ id ops, cs1 (B7 Tryz.f131) = .region id ops false /\ B7 Tryz.f131 = .seq (cs1 (B7 Tryz.f131)) (cs2 (B7 Tryz.f131)) := ⟨_, _, rfl, rfl⟩
theorem Jm {Q : Exit -> Act -> List Frame -> World -> Prop} {a : Act} {cs : List Frame} {w : World} (h : wpOpsS Tryz.prog (D7 (cs1 (B7 Tryz.f131))) (Exit.thenS ((cs2 (B7 Tryz.f131)).wpS Tryz.prog Q) Q) (List.range (D7 (cs1 (B7 Tryz.f131))).size) a cs w) : (B7 Tryz.f131).wpS Tryz.prog Q a cs w := by
 obtain ⟨id, ops, h1, h2⟩ := Qr
 rw [h2]
 refine wpS_seq ?_
 rw [h1] at h ⊢
 exact wpS_region h
abbrev He (b : Aj) : Value := .agg #[.int .i64 b.e_, .int .i64 b.at_]
abbrev be (v : Int) : Obj := .cells #[.int .i64 v] 27 (0, 0)
abbrev ba (v : Int) : Obj := .cells #[.int .i64 v] 3 (0, 0)
abbrev FU (b c : Nat) : List Value := [.pointer (some ⟨b, 0, none⟩), .pointer (some ⟨c, 0, none⟩)]
theorem M1 {b c : Nat} : CallsD Tryz.prog 131 (FU b c).toArray .returning w fun e u' w' => u' = .returning /\ e = .returned (.tuple #[]) /\ w' = w := by
 refine callsD_of_wpS (fn := Tryz.f131) (c := B7 Tryz.f131) Tryz.func131 (by kernel_rfl) fun c0 cs hu => Jm (FR (d := 5) (d2 := 2) (ty := 20) (ty2 := 20) (by kernel_rfl) (by kernel_rfl) (by kernel_rfl) (by rw [show Tryz.f131.ntmps = 20 from by kernel_rfl]; simp) ?_)
 have hr : recoverD (c0 :: cs) = none := by simp [recoverD, hu]
 rw [hr]
 simp only
 refine Qy (n := 20) (f := upd (upd (f0 (FU b c)) 5 .nilIface) 2 .nilIface) (Q' := fun e f w' => e = .normal /\ w' = w /\ f.d = []) ?_ (((Pz (n := 20) (args := FU b c) rfl).put (dst := some 5) (by decide) .nilIface).put (dst := some 2) (by decide) .nilIface) ?_
 ·refine Sq ?_
  refine Rg [0, 1] ?_
  refine V 6 20 (AJ (x := .tmp 2) (v := .nilIface) rfl) ?_
  refine V 7 4 (HA (t := 20) (t' := 20) (x := .tmp 6) (c := .nilIface) (b := false) (v := .nilIface) rfl rfl rfl (by kernel_rfl)) ?_
  refine RY ?_
  refine Ac ?_
  refine CWP.cond0 (t := false) (by kernel_rfl) rfl rfl ?_
  exact R3 (by kernel_rfl) ⟨rfl, rfl, rfl⟩
 ·rintro e a' w' ⟨f, hf, rfl, rfl, hd⟩
  refine ⟨hf.defers.trans hd, .returning, by rw [<- hu], .tuple #[], ?_, rfl, rfl, rfl⟩
  rw [hf.results Tryz.f131]
  exact Av (l := []) (by kernel_rfl) (vs := []) trivial
theorem M2 {b c : Nat} {x : Aj} (hs : HS wb Fb w F ((some c, ba 0) :: (some b, be 0) :: Lf)) :
  CallsD Tryz.prog 131 (FU b c).toArray (.panicking [{ v := .iface 158 (He x), recovered := false }]) w fun e u' w' =>
   settle u' = .returning /\ e = .returned (.tuple #[]) /\ HS wb Fb w' F ((some c, ba x.at_) :: (some b, be x.e_) :: Lf) := by
 refine callsD_of_wpS (fn := Tryz.f131) (c := B7 Tryz.f131) Tryz.func131 (by kernel_rfl) fun c0 cs hu => Jm (FR (d := 5) (d2 := 2) (ty := 20) (ty2 := 20) (by kernel_rfl) (by kernel_rfl) (by kernel_rfl) (by rw [show Tryz.f131.ntmps = 20 from by kernel_rfl]; simp) ?_)
 have hr : recoverD (c0 :: cs) = some (.iface 158 (He x), { c0 with mode := .panicking [{ v := .iface 158 (He x), recovered := true }] } :: cs) := by simp [recoverD, hu]
 rw [hr]
 simp only
 refine Qy (n := 20) (f := upd (upd (f0 (FU b c)) 5 (.iface 158 (He x))) 2 (.iface 158 (He x))) (Q' := fun e f w' => e = .normal /\ f.d = [] /\ HS wb Fb w' F ((some c, ba x.at_) :: (some b, be x.e_) :: Lf)) ?_ (((Pz (n := 20) (args := FU b c) rfl).put (dst := some 5) (by decide) _).put (dst := some 2) (by decide) _) ?_
 ·refine Sq ?_
  refine Rg [0, 1] ?_
  refine V 6 20 (AJ (x := .tmp 2) (v := .iface 158 (He x)) rfl) ?_
  refine V 7 4 (HA (t := 20) (t' := 20) (x := .tmp 6) (c := .nilIface) (b := true) (v := .iface 158 (He x)) ⟨_, _, rfl⟩ rfl rfl (by kernel_rfl)) ?_
  refine RY ?_
  refine Ac ?_
  refine CWP.cond1 (t := true) (by kernel_rfl) rfl rfl ?_
  refine Sq ?_
  refine Rg [0, 1, 2, 3, 4, 5, 6, 7] ?_
  refine V 9 20 (AJ (x := .tmp 2) (v := .iface 158 (He x)) rfl) ?_
  refine V 10 159 (JD (x := .tmp 9) (t := 20) (q := 158) (v := He x) rfl (by kernel_rfl)) ?_
  refine V 8 159 (AJ (x := .tmp 10) (v := .tuple #[He x, .bool true]) rfl) ?_
  refine V 11 158 (BD (x := .tmp 8) (vs := #[He x, .bool true]) (i := 0) (v := He x) rfl rfl) ?_
  refine V 12 4 (BD (x := .tmp 8) (vs := #[He x, .bool true]) (i := 1) (v := .bool true) rfl rfl) ?_
  refine Sf (dst := some 3) (ty := 0) (g := none) (by kernel_rfl) rfl (t := 158) (z := .agg #[.int .i64 0, .int .i64 0]) (by kernel_rfl) (C := #[.int .i64 0, .int .i64 0]) rfl hs (fun b3 w3 hs3 => ?_)
  refine Sg (ty := 0) (g := none) (by kernel_rfl) rfl (x := .tmp 3) (y := .tmp 11) (t := 158) (gg := true) (s := 2) (v := He x) (b := b3) (o := 0) (C := #[.int .i64 0, .int .i64 0]) rfl rfl (by kernel_rfl) hs3 (k := 0) rfl rfl rfl rfl (C' := #[.int .i64 x.e_, .int .i64 x.at_]) rfl (fun w4 (hs4 : HS wb Fb w4 F ((some b3, .cells #[.int .i64 x.e_, .int .i64 x.at_] 158 (0, 0)) :: (some c, ba 0) :: (some b, be 0) :: Lf)) => ?_)
  refine V 4 4 (AA (x := .tmp 12) (v := .bool true) rfl) ?_
  refine RY ?_
  refine Ac ?_
  refine Sq ?_
  refine Sq ?_
  refine Rg [0, 1] ?_
  refine V 13 4 (AJ (x := .tmp 4) (v := .bool true) rfl) ?_
  refine V 14 4 (LV (t := 4) (x := .tmp 13) (a := true) rfl) ?_
  refine RY ?_
  refine Ac ?_
  refine CWP.cond0 (t := false) (by kernel_rfl) rfl rfl ?_
  refine R3 (by kernel_rfl) ?_
  refine Ac ?_
  refine CWP.regionD (by kernel_rfl) (by kernel_rfl) (by kernel_rfl) (by kernel_rfl) (z := 6) (F := F) (Lc := [(some b3, .cells #[.int .i64 x.e_, .int .i64 x.at_] 158 (0, 0))]) (Lz := []) (l := [false, false, false, false, false, false]) (fuel := 6) (by kernel_rfl) (by kernel_rfl) hs4 (by simp) (by simp) (fun f w' => f.d = [] /\ HS wb Fb w' F ((some c, ba x.at_) :: (some b, be x.e_) :: Lf)) (fun wd hw => ?_) (fun f w' h => ⟨rfl, h.1, h.2⟩)
  refine Si (i := 0) (v := .pointer (some ⟨b3, 0, none⟩)) (zd := true) (dst := some 16) (ty := 0) (g := none) (by kernel_rfl) (by kernel_rfl) (by kernel_rfl) (by kernel_rfl) (by kernel_rfl) rfl (fun wq hq => B0 (s := 158) (x := .tmp 3) (i := 0) (o := 0) (k := 1) (b := b3) (o0 := 0) rfl (by kernel_rfl) rfl (o1 := 0) rfl) (l' := [true, false, false, false, false, false]) (by kernel_rfl) ?_
  refine Si (i := 1) (v := .int .i64 x.e_) (zd := true) (dst := some 17) (ty := 27) (g := none) (by kernel_rfl) (by kernel_rfl) (by kernel_rfl) (by kernel_rfl) (by kernel_rfl) rfl (fun wq hq => Cb (t := 27) (x := .tmp 16) (b := b3) (o := 0) (g := false) (s := 1) (C := #[.int .i64 x.e_, .int .i64 x.at_]) (v := .int .i64 x.e_) rfl (by kernel_rfl) (hq.1.2 0 _ _ rfl) rfl rfl rfl) (l' := [true, true, false, false, false, false]) (by kernel_rfl) ?_
  refine Si (i := 2) (v := .pointer (some ⟨b3, 1, none⟩)) (zd := true) (dst := some 18) (ty := 0) (g := none) (by kernel_rfl) (by kernel_rfl) (by kernel_rfl) (by kernel_rfl) (by kernel_rfl) rfl (fun wq hq => B0 (s := 158) (x := .tmp 3) (i := 1) (o := 1) (k := 1) (b := b3) (o0 := 0) rfl (by kernel_rfl) rfl (o1 := 1) rfl) (l' := [true, true, true, false, false, false]) (by kernel_rfl) ?_
  refine Si (i := 3) (v := .int .i64 x.at_) (zd := true) (dst := some 19) (ty := 3) (g := none) (by kernel_rfl) (by kernel_rfl) (by kernel_rfl) (by kernel_rfl) (by kernel_rfl) rfl (fun wq hq => Cb (t := 3) (x := .tmp 18) (b := b3) (o := 1) (g := false) (s := 1) (C := #[.int .i64 x.e_, .int .i64 x.at_]) (v := .int .i64 x.at_) rfl (by kernel_rfl) (hq.1.2 0 _ _ rfl) rfl rfl rfl) (l' := [true, true, true, true, false, false]) (by kernel_rfl) ?_
  refine Sj (i := 4) (by kernel_rfl) ?_
  refine Az.store (l' := [true, true, true, true, true, false]) (zd := true) (by kernel_rfl) (by kernel_rfl) (ty := 0) (g := none) (by kernel_rfl) rfl (x := .tmp 0) (y := .tmp 17) (t := 27) (v := .int .i64 x.e_) (gg := false) (s := 1) (b := b) (o := 0) (C := #[.int .i64 0]) rfl rfl (by kernel_rfl) hw (k := 2) rfl rfl rfl rfl (C' := #[.int .i64 x.e_]) rfl (R6 _) (by simp) (fun e => by cases e) (fun w5 (hs5 : HS wb Fb w5 F ((some b3, .cells #[.int .i64 x.e_, .int .i64 x.at_] 158 (0, 0)) :: (some c, ba 0) :: (some b, be x.e_) :: Lf)) => ?_)
  refine Sj (i := 5) (by kernel_rfl) ?_
  refine Az.store (l' := [true, true, true, true, true, true]) (zd := true) (by kernel_rfl) (by kernel_rfl) (ty := 0) (g := none) (by kernel_rfl) rfl (x := .tmp 1) (y := .tmp 19) (t := 3) (v := .int .i64 x.at_) (gg := false) (s := 1) (b := c) (o := 0) (C := #[.int .i64 0]) rfl rfl (by kernel_rfl) hs5 (k := 1) rfl rfl rfl rfl (C' := #[.int .i64 x.at_]) rfl (R6 _) (by simp) (fun e => by cases e) (fun w6 (hs6 : HS wb Fb w6 F ((some b3, .cells #[.int .i64 x.e_, .int .i64 x.at_] 158 (0, 0)) :: (some c, ba x.at_) :: (some b, be x.e_) :: Lf)) => ?_)
  exact Sm (by kernel_rfl) ⟨rfl, hs6.drop 0⟩
 ·rintro e a' w' ⟨f, hf, rfl, hd, hs'⟩
  refine ⟨hf.defers.trans hd, _, rfl, .tuple #[], ?_, rfl, rfl, hs'⟩
  rw [hf.results Tryz.f131]
  exact Av (l := []) (by kernel_rfl) (vs := []) trivial
theorem Pv (b c : Nat) (w' : World) : (invoke (.fn (.func 131) (FU b c).toArray) #[]).run Tryz.prog w' = .ok (.enter 131 (FU b c).toArray) w' := by
 have co : An Tryz.prog 131 := fun _ _ => by kernel_rfl
 simp only [invoke]; rw [co]; rfl
def Gg (N : Nat) (s : Sx) : Option (List Aq) := Ia (fun {_} y st => EF N y s (fun y0 y1 y2 => Dy N y0 y1 y2 s) st)
theorem Hs : An Tryz.prog 78 := fun _ _ => by kernel_rfl
theorem Im (N : Nat) (hs : HS wb Fb w F Lf) (s : Sx) {g : FuncId} {cap : List Value} (hok : An Tryz.prog g) (K : Option Aj -> Mem -> Own -> Prop) (hlong : decide ((s.length : Int) > 65536) = true -> ∀ F', K (some ⟨2, 0⟩) F' Lf)
  (hrun : decide ((s.length : Int) > 65536) = false -> ∃ l, Gg N s = some l /\ ∀ w1 F1 be_ ba_ bp a n, R5 F F1 -> LC l.length n -> SlA Ag F1 a l -> HS wb Fb w1 F1 ((some bp, .cells #[.slice a l.length n, .int .i64 0] 100 (0, 0)) :: (some ba_, ba 0) :: (some be_, be 0) :: Lf) ->
   Calls Tryz.prog g (.pointer (some ⟨bp, 0, none⟩) :: cap).toArray w1 (fun e w2 =>
   (∃ v F2 Lf2, e = .returned v /\ HS wb Fb w2 F2 ((some ba_, ba 0) :: (some be_, be 0) :: Lf2) /\ R5 F1 F2 /\ K none F2 Lf2) \/
   (∃ x F2 Lf2, e = .panicked [{ v := .iface 158 (He x), recovered := false }] /\ HS wb Fb w2 F2 ((some ba_, ba 0) :: (some be_, be 0) :: Lf2) /\ R5 F1 F2 /\ K (some x) F2 Lf2))) :
  Calls Tryz.prog 78 ([.string ⟨s.toArray⟩, .func (.func g) #[] cap.toArray] : List Value).toArray w (fun e w' => ∃ o F' Lf', e = .returned (match o with | none => .tuple #[.int .i64 0, .int .i64 0] | some x => .tuple #[.int .i64 x.e_, .int .i64 x.at_]) /\ HS wb Fb w' F' Lf' /\ R5 F F' /\ K o F' Lf') := by
 refine calls_of_wp_defers (fn := Tryz.f78) (c := B7 Tryz.f78) Tryz.func78 (by kernel_rfl) ?_
 have key : CWP Tryz.prog none 17 (B7 Tryz.f78) (fun e f w' => ∃ b c F' Lf', f 4 = .pointer (some ⟨b, 0, none⟩) /\ f 5 = .pointer (some ⟨c, 0, none⟩) /\ R5 F F' /\
   ((e = .ret /\ f.d = [] /\ HS wb Fb w' F' ((some c, ba 0) :: (some b, be 2) :: Lf') /\ K (some ⟨2, 0⟩) F' Lf') \/
   (e = .ret /\ f.d = [{ target := .fn (.func 131) (FU b c).toArray, args := #[] }] /\ HS wb Fb w' F' ((some c, ba 0) :: (some b, be 0) :: Lf') /\ K none F' Lf') \/
   (∃ x, e = .panic [{ v := .iface 158 (He x), recovered := false }] /\ f.d = [{ target := .fn (.func 131) (FU b c).toArray, args := #[] }] /\ HS wb Fb w' F' ((some c, ba 0) :: (some b, be 0) :: Lf') /\ K (some x) F' Lf'))) (f0 [.string ⟨s.toArray⟩, .func (.func g) #[] cap.toArray]) w := by
  refine Sq ?_
  refine Rg [0, 1] ?_
  refine Sf (dst := some 4) (ty := 0) (g := none) (by kernel_rfl) rfl (t := 27) (z := .int .i64 0) (by kernel_rfl) (C := #[.int .i64 0]) rfl hs (fun b w2 hs2 => ?_)
  refine Sf (dst := some 5) (ty := 0) (g := none) (by kernel_rfl) rfl (t := 3) (z := .int .i64 0) (by kernel_rfl) (C := #[.int .i64 0]) rfl hs2 (fun c w3 hs3 => ?_)
  refine RY ?_
  refine Ac ?_
  refine Sq ?_
  refine Sq ?_
  refine Rg [0, 1, 2] ?_
  refine V 6 9 (AJ (x := .tmp 0) (v := .string ⟨s.toArray⟩) rfl) ?_
  refine V 7 3 (My (x := .tmp 6) (ats := #[9]) (t := 9) (a := s) rfl rfl (by kernel_rfl)) ?_
  refine V 8 4 (LW (t := 3) (t' := 3) (x := .tmp 7) (y := .const (.int .i64 65536)) (k := .i64) (a := (s.length : Int)) (b := 65536) rfl rfl) ?_
  refine RY ?_
  refine Ac ?_
  refine CWP.cond (t := decide ((s.length : Int) > 65536)) (by kernel_rfl) rfl (fun hc => ?_) (fun hc => ?_)
  ·refine Sq ?_
   refine Rg [0, 1] ?_
   refine Sg (ty := 0) (g := none) (by kernel_rfl) rfl (x := .tmp 4) (y := .const (.int .i64 2)) (t := 27) (gg := false) (s := 1) (v := .int .i64 2) (b := b) (o := 0) (C := #[.int .i64 0]) rfl rfl (by kernel_rfl) hs3 (k := 1) rfl rfl rfl rfl (C' := #[.int .i64 2]) rfl (fun w4 hs4 => ?_)
   refine Sg (ty := 0) (g := none) (by kernel_rfl) rfl (x := .tmp 5) (y := .const (.int .i64 0)) (t := 3) (gg := false) (s := 1) (v := .int .i64 0) (b := c) (o := 0) (C := #[.int .i64 0]) rfl rfl (by kernel_rfl) hs4 (k := 0) rfl rfl rfl rfl (C' := #[.int .i64 0]) rfl (fun w5 hs5 => ?_)
   refine RY ?_
   refine Ac ?_
   refine CWP.ret (by kernel_rfl) ?_
   exact ⟨b, c, F, Lf, rfl, rfl, R6 F, .inl ⟨rfl, rfl, hs5, hlong hc F⟩⟩
  ·obtain ⟨l, hl, hrun⟩ := hrun hc
   refine R3 (by kernel_rfl) ?_
   refine Ac ?_
   refine Sq ?_
   refine Rg [0, 1] ?_
   refine V 9 1 (CX (fn := .func 131) (first := #[]) (cap := #[.tmp 4, .tmp 5]) (fl := []) (cl := FU b c) rfl rfl) ?_
   refine RWP.defer0 (ty := 0) (g := none) (x := .tmp 9) (q := 131) (cap := (FU b c).toArray) (ats := #[]) (by kernel_rfl) rfl rfl ?_
   refine RY ?_
   refine Ac ?_
   refine Sq ?_
   refine Rg [0, 1, 2, 3, 4, 5, 6] ?_
   refine V 10 103 (AJ (x := .tmp 1) (v := .func (.func g) #[] cap.toArray) rfl) ?_
   refine V 11 9 (AJ (x := .tmp 0) (v := .string ⟨s.toArray⟩) rfl) ?_
   refine RWP.call (dst := some 12) (ty := 162) (g := none) (by kernel_rfl) rfl (f0 := .func 133) (aos := #[.tmp 11]) (ats := #[9]) (fid := 133) (first := #[]) (cap := #[]) (args := [.string ⟨s.toArray⟩]) rfl JN rfl hs3 (KE w3 F hs3.pers s) ?_
   rintro _ F1 w4 hs4 le4 ⟨b1, b2, rfl, hb1, hb2⟩
   refine RWP.call (dst := some 13) (ty := 98) (g := none) (by kernel_rfl) rfl (f0 := .func 132) (aos := #[.tmp 12]) (ats := #[162]) (fid := 132) (first := #[]) (cap := #[]) (args := [.func (.func 181) #[] #[.pointer (some ⟨b1, 0, none⟩), .pointer (some ⟨b2, 0, none⟩)]]) rfl Ib rfl hs4
    (Jd w4 F1 hs4.pers 181 [.pointer (some ⟨b1, 0, none⟩), .pointer (some ⟨b2, 0, none⟩)] (fun {_} y st => EF N y s (fun y0 y1 y2 => Dy N y0 y1 y2 s) st) Ic
     (Je N F1 s b1 hb1 (fun y0 y1 y2 => Dy N y0 y1 y2 s) 180 [] [.pointer (some ⟨b1, 0, none⟩)] Ie (fun w1 F2 y0 y1 y2 r le1 pe1 hr1 => Jf N w1 F2 pe1 y0 y1 y2 b1 s (le1 _ _ hb1) r hr1) b2 hb2) l hl) ?_
   rintro _ F2 w5 hs5 le5 ⟨a, n, rfl, hb, hsl⟩
   refine V 14 100 (FG (t := 100) (parts := #[(0, .tmp 13)]) (vs := [(0, .slice a l.length n)]) rfl (cs := [.slice a l.length n, .int .i64 0]) (by kernel_rfl)) ?_
   refine RWP.box (dst := some 15) (ty := 95) (g := none) (by kernel_rfl) rfl (x := .tmp 14) (t := 100) (v := .agg #[.slice a l.length n, .int .i64 0]) rfl (C := #[.slice a l.length n, .int .i64 0]) rfl hs5 (fun bp w6 hs6 => ?_)
   refine R2 (dst := some 16) (ty := 0) (g := none) (by kernel_rfl) rfl (C8 (f := .tmp 10) (aos := #[.tmp 15]) (ats := #[95]) (g := g) (first := #[]) (cap := cap.toArray) (args := .pointer (some ⟨bp, 0, none⟩) :: cap) rfl hok (by simp; rfl)) (hrun _ F2 b c bp a n (le4.trans le5) hb hsl hs6) ?_
   rintro e w7 (⟨v, F3, Lf2, rfl, hs7, hle, hK⟩ | ⟨x, F3, Lf2, rfl, hs7, hle, hK⟩)
   ·refine RY ?_
    refine Ac ?_
    refine Sq ?_
    refine Rg [0, 1] ?_
    refine Sg (ty := 0) (g := none) (by kernel_rfl) rfl (x := .tmp 4) (y := .const (.int .i64 0)) (t := 27) (gg := false) (s := 1) (v := .int .i64 0) (b := b) (o := 0) (C := #[.int .i64 0]) rfl rfl (by kernel_rfl) hs7 (k := 1) rfl rfl rfl rfl (C' := #[.int .i64 0]) rfl (fun w8 hs8 => ?_)
    refine Sg (ty := 0) (g := none) (by kernel_rfl) rfl (x := .tmp 5) (y := .const (.int .i64 0)) (t := 3) (gg := false) (s := 1) (v := .int .i64 0) (b := c) (o := 0) (C := #[.int .i64 0]) rfl rfl (by kernel_rfl) hs8 (k := 0) rfl rfl rfl rfl (C' := #[.int .i64 0]) rfl (fun w9 hs9 => ?_)
    refine RY ?_
    refine Ac ?_
    refine CWP.ret (by kernel_rfl) ?_
    exact ⟨b, c, F3, Lf2, rfl, rfl, (le4.trans le5).trans hle, .inr (.inl ⟨rfl, rfl, hs9, hK⟩)⟩
   ·exact ⟨b, c, F3, Lf2, rfl, rfl, (le4.trans le5).trans hle, .inr (.inr ⟨x, rfl, rfl, hs7, hK⟩)⟩
 refine wp_mono (wpIn_wide.1 (key _ (Pz (n := 17) (args := [.string ⟨s.toArray⟩, .func (.func g) #[] cap.toArray]) rfl))) ?_
 have hres : ∀ {f : Fr} {b c : Nat} {v u : Int} {w' : World} {F' : Mem} {L' : Own}, f 4 = .pointer (some ⟨b, 0, none⟩) -> f 5 = .pointer (some ⟨c, 0, none⟩) -> HS wb Fb w' F' ((some c, ba u) :: (some b, be v) :: L') -> (Cs Tryz.f78.results f).run Tryz.prog w' = .ok (.tuple #[.int .i64 v, .int .i64 u]) w' := by
  intro f b c v u w' F' L' hf hf5 hs'
  exact Av (l := [.cell 4 27, .cell 5 3]) (by kernel_rfl) (vs := [.int .i64 v, .int .i64 u]) ⟨b, 0, hf, Ai (t := 27) (g := false) (s := 1) (by kernel_rfl) (hs'.ownAt (k := 1) rfl) rfl (by decide), c, 0, hf5, Ai (t := 3) (g := false) (s := 1) (by kernel_rfl) (hs'.ownAt (k := 0) rfl) rfl (by decide), trivial⟩
 rintro e a w' ⟨f, hf, b, c, F', Lf', h4, h5, hle, (⟨rfl, hd, hs', hK⟩ | ⟨rfl, hd, hs', hK⟩ | ⟨x, rfl, hd, hs', hK⟩)⟩
 ·show Leaves _ _ _ _ _ _ _
  rw [hf.defers, hd]
  exact ⟨_, by rw [hf.results Tryz.f78]; exact hres h4 h5 hs', some ⟨2, 0⟩, F', Lf', rfl, (hs'.drop 0).drop 0, hle, hK⟩
 ·show Leaves _ _ _ _ _ _ _
  rw [hf.defers, hd]
  refine ⟨by simp, _, _, 131, _, rfl, Pv b c w', ?_⟩
  intro c0 cs hc0
  obtain ⟨e, u', w2, fr, hR, hrest⟩ := M1 (w := w') (b := b) (c := c) c0 cs hc0
  refine ⟨e, u', w2, fr, ?_, hrest⟩
  obtain ⟨rfl, rfl, rfl⟩ := hR
  show Leaves _ _ _ _ _ _ _
  exact ⟨_, by rw [hf.results Tryz.f78]; exact hres h4 h5 hs', none, F', Lf', rfl, (hs'.drop 0).drop 0, hle, hK⟩
 ·show Leaves _ _ _ _ _ _ _
  rw [hf.defers, hd]
  refine ⟨by simp, _, _, 131, _, rfl, Pv b c w', ?_⟩
  intro c0 cs hc0
  obtain ⟨e, u', w2, fr, hR, hrest⟩ := M2 (w := w') (b := b) (c := c) (x := x) hs' c0 cs hc0
  refine ⟨e, u', w2, fr, ?_, hrest⟩
  obtain ⟨hu, rfl, hs2⟩ := hR
  show Leaves _ _ _ _ _ _ _
  rw [hu]
  exact ⟨_, by rw [hf.results Tryz.f78]; exact hres h4 h5 hs2, some x, F', Lf', rfl, (hs2.drop 0).drop 0, hle, hK⟩
end
def AP (N : Nat) (x0 : Ab) (x1 : Sx) : Option Bool :=
 (((idx x0.l_ 0).bind fun x29 => (bif (x29.kind_ == 2) then ((idx x0.l_ 0).bind fun x46 => some (x46.text_ == x1)) else ((idx x0.l_ 0).bind fun x52 => (bif (x52.kind_ == 3) then ((idx x0.l_ 0).bind fun x61 => some (x61.text_ == x1)) else some false)))).bind fun j24 => some j24)
theorem Ch : An Tryz.prog 134 := fun _ _ => by kernel_rfl
theorem Co (N : Nat) {wb w0 : World} {Fb F0 : Mem} {Lf : Own} (bp0 : Nat) (x0 : Ab) (a0_0 : Sy) (n0_0 : Nat) (hb0_0 : LC x0.l_.length n0_0) (hs0_0 : SlA Ag F0 a0_0 x0.l_) (x1 : Sx) (hs0 : HS wb Fb w0 F0 ((sb bp0 (Ad x0 a0_0 n0_0) 100) :: Lf)) (r : Bool) (h : AP N x0 x1 = some r) :
  Calls Tryz.prog 134 ([(pt bp0 0), (.string ⟨(x1).toArray⟩)] : List Value).toArray w0 (NV wb Fb F0 fun F' v L' => v = (.bool r) /\ L' = (sb bp0 (Ad x0 a0_0 n0_0) 100) :: Lf) := by
 refine Go 34 Tryz.func134 ?_
 refine Sq (Rg [0] ?_)
 refine Vs 1 ?_
 refine Nss (Rg [0, 1, 2, 3, 4, 5, 6, 7, 8, 9, 10, 11, 12, 13, 14, 15, 16, 17, 18, 19, 20, 21, 22, 23, 24, 25, 26, 27, 28, 29] ?_)
 obtain ⟨j24, hj27, h28⟩ := bind_some h
 refine Sb (fun f w => ∃ (F1 : Mem), HS wb Fb w F1 ((sb bp0 (Ad x0 a0_0 n0_0) 100) :: Lf) /\ R5 F0 F1 /\ FI f [] [(4, (.bool j24))]) ?_ ?_
 ·refine Vs 3 ?_
  refine Ld hs0.at0 ?_
  obtain ⟨x29, hx30, h32⟩ := bind_some hj27
  obtain ⟨hi31, hx30'⟩ := Ay hx30
  obtain ⟨b33, o34, C35, E36, fz37, rfl, hF39, hE40⟩ := Sh hs0_0 hx30'
  have hc42 := hE40 _ _ hx30'
  refine Ix hi31 ?_
  refine Vs 1 ?_
  refine Lx 0 (hs0.pers _ _ hF39) hc42 ?_
  refine Vs 2 ?_
  refine Sp h32 (fun hb43 h44 => ?_) (fun hb43 h45 => ?_)
  ·refine Ss hb43 8 ?_
   refine Pk1 hb43 ?_
   refine Vs 1 ?_
   refine Vg 24 95 18 true 23 rfl (mv 0 (pt bp0 0)) ?_
   refine Vg 25 0 18 true 23 rfl (Dw (x := (.tmp 24)) (a := ⟨bp0, 0, none⟩) rfl) ?_
   refine Vg 26 0 18 true 23 rfl (fa 100 25 0 0 1 bp0 0 0) ?_
   refine Vg 27 98 18 true 23 rfl (ld 98 26 bp0 0 false 1 (.slice (some ⟨b33, o34, none⟩) x0.l_.length n0_0) hs0.at0) ?_
   obtain ⟨x46, hx47, h49⟩ := bind_some h44
   obtain ⟨hi48, hx47'⟩ := Ay hx47
   have hc51 := hE40 _ _ hx47'
   refine Vg 28 0 18 true 23 rfl (Fm (t := 98) (x := (.tmp 27)) (y := (.const (vi 0))) (b := b33) (o := o34) (E := 97) (s := 3) (by_ := 32) rfl rfl (by kernel_rfl) hi48) ?_
   refine Vg 29 0 18 true 23 rfl (fa 97 28 2 2 1 b33 (o34 + (0 : Int).toNat * 3) ((o34 + (0 : Int).toNat * 3) + 2)) ?_
   refine Vg 30 9 18 true 23 rfl (lx 9 29 2 3 false 1 (.string ⟨(x46.text_).toArray⟩) (hs0.pers _ _ hF39) hc51) ?_
   refine Vg 31 9 18 true 23 rfl (mv 1 (.string ⟨(x1).toArray⟩)) ?_
   refine Vg 32 4 18 true 23 rfl (Mz (t := 9) (t' := 9) (x := (.tmp 30)) (y := (.tmp 31)) (op := .eql) (a := x46.text_) (b := x1) (v := (x46.text_ == x1)) rfl rfl rfl) ?_
   refine Pk1 (rfl : true = true) ?_
   refine Vs 1 ?_
   obtain rfl := Aa h49
   exact RY ⟨rfl, F0, hs0, (R6 _), fI⟩
  ·refine Vgs hb43 3 ?_
   refine Lg hb43 hs0.at0 ?_
   obtain ⟨x52, hx53, h55⟩ := bind_some h45
   obtain ⟨hi54, hx53'⟩ := Ay hx53
   have hc57 := hE40 _ _ hx53'
   refine Ixg hb43 hi54 ?_
   refine Vgs hb43 1 ?_
   refine Lxg hb43 0 (hs0.pers _ _ hF39) hc57 ?_
   refine Vgs hb43 1 ?_
   refine Pk0 hb43 ?_
   refine Vs 1 ?_
   refine Sp h55 (fun hb58 h59 => ?_) (fun hb58 h60 => ?_)
   ·refine Vgs hb58 3 ?_
    refine Lg hb58 hs0.at0 ?_
    obtain ⟨x61, hx62, h64⟩ := bind_some h59
    obtain ⟨hi63, hx62'⟩ := Ay hx62
    have hc66 := hE40 _ _ hx62'
    refine Ixg hb58 hi63 ?_
    refine Vgs hb58 1 ?_
    refine Lxg hb58 2 (hs0.pers _ _ hF39) hc66 ?_
    refine Vgs hb58 2 ?_
    refine Pk1 hb58 ?_
    refine Vs 1 ?_
    obtain rfl := Aa h64
    exact RY ⟨rfl, F0, hs0, (R6 _), fI⟩
   ·refine Ss hb58 9 ?_
    refine Pk0 hb58 ?_
    refine Vs 1 ?_
    obtain rfl := Aa h60
    exact RY ⟨rfl, F0, hs0, (R6 _), fI⟩
 ·rintro f w21 ⟨F1, hs22, le23, ⟨_, rfl⟩⟩
  refine Ac ?_
  refine Rt ?_
  obtain rfl := Aa h28
  exact ReB [(.bool j24)] hs22 le23 ⟨rfl, rfl⟩
def Ar (N : Nat) (x0 : Ab) (x1 : Sx) : Option (Ab × Bool) :=
 ((AP N x0 x1).bind fun r21 => (bif (!r21) then some (x0, false) else ((sub x0.l_ 1 (x0.l_.length : Int)).bind fun r31 => some (({ l_ := r31, open_ := x0.open_ } : Ab), true))))
theorem AF : An Tryz.prog 80 := fun _ _ => by kernel_rfl
theorem AG (N : Nat) {wb w0 : World} {Fb F0 : Mem} {Lf : Own} (bp0 : Nat) (x0 : Ab) (a0_0 : Sy) (n0_0 : Nat) (hb0_0 : LC x0.l_.length n0_0) (hs0_0 : SlA Ag F0 a0_0 x0.l_) (x1 : Sx) (hs0 : HS wb Fb w0 F0 ((sb bp0 (Ad x0 a0_0 n0_0) 100) :: Lf)) (r : (Ab × Bool)) (h : Ar N x0 x1 = some r) :
  Calls Tryz.prog 80 ([(pt bp0 0), (.string ⟨(x1).toArray⟩)] : List Value).toArray w0 (NV wb Fb F0 fun F' v L' => ∃ (aq0_0 : Sy) (nq0_0 : Nat), v = (.bool r.2) /\ L' = (sb bp0 (Ad r.1 aq0_0 nq0_0) 100) :: Lf /\ LC r.1.l_.length nq0_0 /\ SlA Ag F' aq0_0 r.1.l_) := by
 refine Go 17 Tryz.func80 ?_
 refine Sq (Rg [0] ?_)
 refine Vs 1 ?_
 refine Nss ?_
 refine Sq (Rg [0, 1, 2, 3] ?_)
 refine Vs 2 ?_
 obtain ⟨r21, hr22, h23⟩ := bind_some h
 refine CB Ch (Co N bp0 x0 a0_0 n0_0 hb0_0 hs0_0 x1 hs0 _ hr22) ?_
 rintro _ F1 w24 _ hs25 le26 ⟨rfl, rfl⟩
 refine Vs 1 ?_
 refine Nt ?_
 refine Cd h23 (fun hb28 h29 => ?_) (fun hb28 h30 => ?_)
 ·refine Sq (Rg [0] ?_)
  refine Vs 1 ?_
  refine Nt ?_
  refine Rt ?_
  refine Af ?_
  obtain rfl := Aa h29
  exact ReB [(.bool false)] hs25 le26 ⟨a0_0, n0_0, rfl, rfl, hb0_0, (R8 hs0_0 le26)⟩
 ·refine Sc ?_
  refine Ac ?_
  refine Sq (Rg [0, 1, 2, 3, 4, 5, 6, 7, 8] ?_)
  refine Vs 4 ?_
  refine Ld hs25.at0 ?_
  obtain ⟨r31, hr32, h33⟩ := bind_some h30
  obtain ⟨a34, n35, hb36, hs37, hrun38⟩ := Kk (P := Tryz.prog) (T := Ag) (lo := (some (.const (vi 1)))) (hi := none) (mx := none) (t := 98) (E := 97) (by_ := 32) (c := n0_0) (a := a0_0) (l := x0.l_) (r := r31) (il := 1) (ih := (x0.l_.length : Int)) (im := 0) (by kernel_rfl) (by kernel_rfl) hb0_0 (R8 hs0_0 le26) (fun h => by first | rfl | cases h) hr32
  refine V 14 98 (hrun38 (x := (.tmp 13)) rfl rfl rfl trivial) ?_
  refine Vs 2 ?_
  refine St0 #[(.slice a34 r31.length n35), (vi x0.open_)] hs25 (fun w39 hs40 => ?_)
  refine Nss (Rg [0] ?_)
  refine Vs 1 ?_
  refine Nt ?_
  refine Rt ?_
  obtain rfl := Aa h33
  exact ReB [(.bool true)] hs40 le26 ⟨a34, n35, rfl, rfl, hb36, hs37⟩
def C9 (N : Nat) (x0 : Ab) (x1 : (Ab -> Option (Aj ⊕ (Ab × Expr)))) (x2 : (List (Sx × Int))) (r27 : (Ab × Expr)) : (Int × Int × List Expr × List Aq × Int) -> Option (BX (Aj ⊕ (Ab × Expr)) (Int × Int × List Expr × List Aq × Int)) := fun s42 =>
 ((idx s42.2.2.2.1 0).bind fun x64 => ((bif (!(OJ x2 x64.text_)) then some (true, s42.2.2.2.1, s42.2.2.2.2) else ((idx s42.2.2.2.1 0).bind fun x95 => ((Ar N ({ l_ := s42.2.2.2.1, open_ := s42.2.2.2.2 } : Ab) x95.text_).bind fun r101 => some ((!r101.2), r101.1.l_, r101.1.open_)))).bind fun j81 => (bif j81.1 then some (.ret (.inr (({ l_ := j81.2.1, open_ := j81.2.2 } : Ab), ({ Op := s42.1, Value := s42.2.1, Kids := s42.2.2.1 } : Expr)))) else (((x1 ({ l_ := j81.2.1, open_ := j81.2.2 } : Ab)).bind fun r129 => sk r129 (fun b146 => some (.inl b146)) (fun r132 => some (.inr (r132.1.l_, r132.1.open_, (Ju x2 x64.text_ 0), 0, [({ Op := s42.1, Value := s42.2.1, Kids := s42.2.2.1 } : Expr), r132.2])))).bind fun j119 => sk j119 (fun b158 => some (.ret (.inl b158))) (fun J128 => some (.next (J128.2.2.1, J128.2.2.2.1, J128.2.2.2.2, J128.1, J128.2.1)))))))
def Bv (N : Nat) (x0 : Ab) (x1 : (Ab -> Option (Aj ⊕ (Ab × Expr)))) (x2 : (List (Sx × Int))) : Option (Aj ⊕ (Ab × Expr)) :=
 ((x1 x0).bind fun r24 => sk r24 (fun b165 => some (.inl b165)) (fun r27 => ((Br (C9 N x0 x1 x2 r27) N (r27.2.Op, r27.2.Value, r27.2.Kids, r27.1.l_, r27.1.open_)).bind fun o => o.k (fun r => some r) (fun s52 => some (.inr (({ l_ := s52.2.2.2.1, open_ := s52.2.2.2.2 } : Ab), ({ Op := 0, Value := 0, Kids := ([] : List Expr) } : Expr)))))))
theorem Bz : An Tryz.prog 184 := fun _ _ => by kernel_rfl
theorem BK (N : Nat) {wb w0 : World} {Fb F0 : Mem} {Lf : Own} (hG : CI F0) (bp0 : Nat) (x0 : Ab) (a0_0 : Sy) (n0_0 : Nat) (hb0_0 : LC x0.l_.length n0_0) (hs0_0 : SlA Ag F0 a0_0 x0.l_) (gx1 : FuncId) (fx1 kx1 : List Value) (x1 : (Ab -> Option (Aj ⊕ (Ab × Expr)))) (hox1 : An Tryz.prog gx1) (hpx1 : Q5 bp0 gx1 fx1 kx1 x1) (x2 : (List (Sx × Int))) (o2_0 : Option Nat) (hm2_0 : MpA Fk Bu F0 o2_0 x2) (hs0 : HS wb Fb w0 F0 ((sb bp0 (Ad x0 a0_0 n0_0) 100) :: Lf)) (r : (Aj ⊕ (Ab × Expr))) (h : Bv N x0 x1 x2 = some r) :
  Calls Tryz.prog 184 ([(pt bp0 0), (.func (.func gx1) fx1.toArray kx1.toArray), (.map o2_0)] : List Value).toArray w0 (BH wb Fb F0 Lf r (fun b => (.iface 158 (.agg (AH b)))) fun a F' v L' => ∃ (aq0_0 : Sy) (nq0_0 : Nat) (aq1_2 : Sy) (nq1_2 : Nat), v = (.agg (Ae a.2 aq1_2 nq1_2)) /\ L' = (sb bp0 (Ad a.1 aq0_0 nq0_0) 100) :: Lf /\ LC a.1.l_.length nq0_0 /\ SlA Ag F' aq0_0 a.1.l_ /\ LC a.2.Kids.length nq1_2 /\ SlA Ao F' aq1_2 a.2.Kids) := by
 refine Go 45 Tryz.func184 ?_
 refine Sq (Rg [0] ?_)
 refine Al' 33 #[(vi 0), (vi 0), (.slice none ([] : List Expr).length 0)] hs0 (fun b21 w22 hs23 => ?_)
 refine Nss (Rg [0, 1, 2, 3] ?_)
 refine Vs 1 ?_
 obtain ⟨r24, hr25, h26⟩ := bind_some h
 refine CPq hox1 (hpx1 hG x0 a0_0 n0_0 hb0_0 hs0_0 hs23.pk1 _ hr25) ?_ ?_
 ·rintro r27 _ F1 w29 _ rfl hs30 le31 ⟨ar27_0_0, nr27_0_0, ar27_1_2, nr27_1_2, rfl, rfl, hbr27_0_0, hsr27_0_0, hbr27_1_2, hsr27_1_2⟩
  have h33 := BU h26
  refine Al' 33 #[(vi 0), (vi 0), (.slice none ([] : List Expr).length 0)] hs30 (fun b34 w35 hs36 => ?_)
  refine St0 (Ae r27.2 ar27_1_2 nr27_1_2) hs36 (fun w37 hs38 => ?_)
  refine Nt ?_
  obtain ⟨o39, ho40, h41⟩ := bind_some h33
  refine Se (fun f w => ∃ (s52 : (Int × Int × List Expr × List Aq × Int)) (F3 : Mem) (as52_3 : Sy) (ns52_3 : Nat), o39 = .done s52 /\ HS wb Fb w F3 ((sb bp0 #[(.slice as52_3 s52.2.2.2.1.length ns52_3), (vi s52.2.2.2.2)] 100) :: (sb b21 #[(vi 0), (vi 0), (.slice none ([] : List Expr).length 0)] 33) :: Lf) /\ R5 F1 F3 /\ FI f [] [(6, (pt b21 0))] /\ LC s52.2.2.2.1.length ns52_3 /\ SlA Ag F3 as52_3 s52.2.2.2.1) ?_ ?_
  ·refine Bk ?_
   refine R4 (by kernel_rfl) (fun m f w => ∃ (s42 : (Int × Int × List Expr × List Aq × Int)) (F2 : Mem) (as42_2 : Sy) (ns42_2 : Nat) (as42_3 : Sy) (ns42_3 : Nat), Br (C9 N x0 x1 x2 r27) m s42 = some o39 /\ HS wb Fb w F2 ((sb b34 #[(vi s42.1), (vi s42.2.1), (.slice as42_2 s42.2.2.1.length ns42_2)] 33) :: (sb bp0 #[(.slice as42_3 s42.2.2.2.1.length ns42_3), (vi s42.2.2.2.2)] 100) :: (sb b21 #[(vi 0), (vi 0), (.slice none ([] : List Expr).length 0)] 33) :: Lf) /\ R5 F1 F2 /\ FI f [] [(0, (pt bp0 0)), (1, (.func (.func gx1) fx1.toArray kx1.toArray)), (2, (.map o2_0)), (6, (pt b21 0)), (7, (pt b34 0))] /\ LC s42.2.2.1.length ns42_2 /\ SlA Ao F2 as42_2 s42.2.2.1 /\ LC s42.2.2.2.1.length ns42_3 /\ SlA Ag F2 as42_3 s42.2.2.2.1) N ⟨(r27.2.Op, r27.2.Value, r27.2.Kids, r27.1.l_, r27.1.open_), F1, ar27_1_2, nr27_1_2, ar27_0_0, nr27_0_0, ho40, hs38, (R6 _), fI, hbr27_1_2, hsr27_1_2, hbr27_0_0, hsr27_0_0⟩ ?_
   rintro m58 f w43 ⟨s42, F2, as42_2, ns42_2, as42_3, ns42_3, hit59, hs44, le45, ⟨_, rfl⟩, hbs42_2, hss42_2, hbs42_3, hss42_3⟩
   obtain ⟨m60, fl61, rfl, hb62, hnx63⟩ := A7 hit59
   refine Bk ?_
   refine Sq (Rg [0, 1, 2, 3, 4, 5, 6, 7, 8, 9, 10, 11, 12, 13] ?_)
   refine Vs 4 ?_
   refine Ld hs44.at1 ?_
   obtain ⟨x64, hx65, h67⟩ := bind_some hb62
   obtain ⟨hi66, hx65'⟩ := Ay hx65
   obtain ⟨b68, o69, C70, E71, fz72, rfl, hF74, hE75⟩ := Sh hss42_3 hx65'
   have hc77 := hE75 _ _ hx65'
   refine Ix hi66 ?_
   refine Vs 1 ?_
   refine Lx 2 (hs44.pers _ _ hF74) hc77 ?_
   refine V 21 213 (Nk (mt := 198) (k := 9) (vt := 3) (m := (.tmp 13)) (x := (.tmp 20)) (kv := (.string ⟨(x64.text_).toArray⟩)) (kx := x64.text_) (z := (vi 0)) (zx := 0) (K := Fk) (T := Bu) kl9 rfl rfl ⟨_, rfl, rfl⟩ (by kernel_rfl) (by kernel_rfl) ⟨_, rfl, rfl⟩ (MpA.mpw hs44.pers (MpA.mono hm2_0 (le31.trans le45))) (fun h => by obtain ⟨_, rfl, rfl⟩ := h; rfl)) ?_
   refine Vs 5 ?_
   refine Nss ?_
   refine Sq (Rg [0, 1, 2, 3, 4, 5, 6, 7, 8, 9, 10, 11, 12, 13] ?_)
   obtain ⟨j81, hj90, h91⟩ := bind_some h67
   refine Sb (fun f w => ∃ (F4 : Mem) (aj81_1 : Sy) (nj81_1 : Nat), HS wb Fb w F4 ((sb b34 #[(vi s42.1), (vi s42.2.1), (.slice as42_2 s42.2.2.1.length ns42_2)] 33) :: (sb bp0 #[(.slice aj81_1 j81.2.1.length nj81_1), (vi j81.2.2)] 100) :: (sb b21 #[(vi 0), (vi 0), (.slice none ([] : List Expr).length 0)] 33) :: Lf) /\ R5 F2 F4 /\ FI f [] [(0, (pt bp0 0)), (1, (.func (.func gx1) fx1.toArray kx1.toArray)), (2, (.map o2_0)), (6, (pt b21 0)), (7, (pt b34 0)), (8, (vi (Ju x2 x64.text_ 0))), (37, (.bool j81.1))] /\ LC j81.2.1.length nj81_1 /\ SlA Ag F4 aj81_1 j81.2.1) ?_ ?_
   ·refine Vs 3 ?_
    refine Sp hj90 (fun hb92 h93 => ?_) (fun hb92 h94 => ?_)
    ·refine Ss hb92 10 ?_
     refine Pk1 hb92 ?_
     obtain rfl := Aa h93
     exact RY ⟨rfl, F2, (some ⟨b68, o69, none⟩), ns42_3, hs44, (R6 _), fI, hbs42_3, hss42_3⟩
    ·refine Vgs hb92 4 ?_
     refine Lg hb92 hs44.at1 ?_
     obtain ⟨x95, hx96, h98⟩ := bind_some h94
     obtain ⟨hi97, hx96'⟩ := Ay hx96
     have hc100 := hE75 _ _ hx96'
     refine Ixg hb92 hi97 ?_
     refine Vgs hb92 1 ?_
     refine Lxg hb92 2 (hs44.pers _ _ hF74) hc100 ?_
     obtain ⟨r101, hr102, h103⟩ := bind_some h98
     refine RWP.callB (dst := (some 35)) (ty := 4) (g := (some (2, false))) (by kernel_rfl) (K5 (d := 26) (by kernel_rfl) rfl hb92) (f0 := (.func 80)) (aos := #[(.tmp 27), (.tmp 34)]) (ats := #[95, 9]) (fid := 80) (first := #[]) (cap := #[]) (args := [(pt bp0 0), (.string ⟨(x95.text_).toArray⟩)]) rfl AF rfl (AG N bp0 (({ l_ := s42.2.2.2.1, open_ := s42.2.2.2.2 } : Ab)) (some ⟨b68, o69, none⟩) ns42_3 hbs42_3 hss42_3 x95.text_ hs44.pk2.pk1.pk2 _ hr102) ?_
     rintro _ F5 w104 _ hs105 le106 ⟨ar101_0_0, nr101_0_0, rfl, rfl, hbr101_0_0, hsr101_0_0⟩
     refine Vgs hb92 1 ?_
     refine Pk0 hb92 ?_
     obtain rfl := Aa h103
     exact RY ⟨rfl, F5, ar101_0_0, nr101_0_0, hs105.pk2.pk1.pk2, le106, fI, hbr101_0_0, hsr101_0_0⟩
   ·rintro f w78 ⟨F4, aj81_1, nj81_1, hs79, le80, ⟨_, rfl⟩, hbj81_1, hsj81_1⟩
    refine Ac ?_
    refine Cd h91 (fun hb108 h109 => ?_) (fun hb108 h110 => ?_)
    ·refine Sq (Rg [0, 1] ?_)
     refine Ld hs79.at0 ?_
     refine St2 #[(vi s42.1), (vi s42.2.1), (.slice as42_2 s42.2.2.1.length ns42_2)] hs79 (fun w111 hs112 => ?_)
     refine Nt ?_
     refine Rt ?_
     refine Af ?_
     refine Ah ?_
     refine Af ?_
     refine Ah ?_
     have hret := Cf h109 hnx63
     subst hret
     refine .inr ?_
     obtain rfl := Aa h41
     exact ⟨rfl, (.agg #[(vi s42.1), (vi s42.2.1), (.slice as42_2 s42.2.2.1.length ns42_2)]), Av (l := [.cell 6 33]) (by kernel_rfl) (vs := [(.agg #[(vi s42.1), (vi s42.2.1), (.slice as42_2 s42.2.2.1.length ns42_2)])]) ⟨b21, 0, rfl, Ai (t := 33) (g := true) (s := 3) (by kernel_rfl) hs112.at2 rfl (by decide), trivial⟩, .inl ⟨_, F4, _, _, rfl, rfl, hs112.dr0.dr1, ((le31.trans le45).trans le80), ⟨aj81_1, nj81_1, as42_2, ns42_2, rfl, rfl, hbj81_1, hsj81_1, hbs42_2, (R8 hss42_2 le80)⟩⟩⟩
    ·refine Sc ?_
     refine Ac ?_
     obtain ⟨j119, hj126, h127⟩ := bind_some h110
     refine RDP 6 7 [(sb b21 #[(vi 0), (vi 0), (.slice none ([] : List Expr).length 0)] 33)] [(sb b34 #[(vi s42.1), (vi s42.2.1), (.slice as42_2 s42.2.2.1.length ns42_2)] 33)] hs79 (fun c d w => d = [] /\ ∃ (b : Aj) (Fp : Mem), j119 = .inl b /\ c = [{ v := (.iface 158 (.agg (AH b))), recovered := false }] /\ HS wb Fb w Fp Lf /\ R5 F4 Fp) (fun f w => ∃ (J128 : (List Aq × Int × Int × Int × List Expr)), j119 = .inr J128 /\ ∃ (F6 : Mem) (aj119_0 : Sy) (nj119_0 : Nat) (aj119_4 : Sy) (nj119_4 : Nat) (ej119_4 : Option Nat × Obj), HS wb Fb w F6 (ej119_4 :: (sb b34 #[(vi J128.2.2.1), (vi J128.2.2.2.1), (.slice aj119_4 J128.2.2.2.2.length nj119_4)] 33) :: (sb bp0 #[(.slice aj119_0 J128.1.length nj119_0), (vi J128.2.1)] 100) :: (sb b21 #[(vi 0), (vi 0), (.slice none ([] : List Expr).length 0)] 33) :: Lf) /\ R5 F4 F6 /\ FI f [] [(0, (pt bp0 0)), (1, (.func (.func gx1) fx1.toArray kx1.toArray)), (2, (.map o2_0)), (6, (pt b21 0)), (7, (pt b34 0))] /\ LC J128.1.length nj119_0 /\ SlA Ag F6 aj119_0 J128.1 /\ Au Ao 33 F6 aj119_4 nj119_4 J128.2.2.2.2 ej119_4) (fun wd113 hw114 => ?_) ?_ ?_
     ·refine Dv [0] ?_
      refine Dl 1 (fun _ hq => ((hq.2 rfl).2 0 _ _ rfl)) ?_
      refine Dv [2] ?_
      refine D1 3 ?_
      obtain ⟨r129, hr130, h131⟩ := bind_some hj126
      refine Az.callBP (l' := [true, true, true, true, false, false, false]) (zd := false) (by kernel_rfl) (by kernel_rfl) (Lf := (sb b34 #[(vi s42.1), (vi s42.2.1), (.slice as42_2 s42.2.2.1.length ns42_2)] 33) :: (sb b21 #[(vi 0), (vi 0), (.slice none ([] : List Expr).length 0)] 33) :: Lf) (dst := (some 42)) (ty := 33) (g := none) (by kernel_rfl) rfl (f0 := (.tmp 41)) (aos := #[]) (ats := #[]) (fid := gx1) (first := fx1.toArray) (cap := kx1.toArray) (args := (fx1 ++ (([] : List Value) ++ kx1))) rfl hox1 (OS (l := []) (fi := fx1) (k := kx1) rfl) (hpx1 (hG.mono ((le31.trans le45).trans le80)) (({ l_ := j81.2.1, open_ := j81.2.2 } : Ab)) aj81_1 nj81_1 hbj81_1 hsj81_1 hw114.pk2.pk1.pk2 _ hr130) ?_ ?_
      ·rintro r132 _ F7 w134 _ rfl hs135 le136 ⟨ar132_0_0, nr132_0_0, ar132_1_2, nr132_1_2, rfl, rfl, hbr132_0_0, hsr132_0_0, hbr132_1_2, hsr132_1_2⟩
       have h138 := BU h131
       refine ⟨BF hs135 le136 (by simp) (fun _ => by simp), ?_⟩
       refine D1 4 ?_
       refine DBs 33 [(vi s42.1), (vi s42.2.1), (.slice as42_2 s42.2.2.1.length ns42_2), (vi r132.2.Op), (vi r132.2.Value), (.slice ar132_1_2 r132.2.Kids.length nr132_1_2)] hs135 le136 (fun b139 w140 hs141 => ?_)
       have hr143 : Au Ao 33 F7 (some ⟨b139, 0, none⟩) 2 [({ Op := s42.1, Value := s42.2.1, Kids := s42.2.2.1 } : Expr), r132.2] (some b139, .cells ([(vi s42.1), (vi s42.2.1), (.slice as42_2 s42.2.2.1.length ns42_2), (vi r132.2.Op), (vi r132.2.Value), (.slice ar132_1_2 r132.2.Kids.length nr132_1_2)] : List Value).toArray 33 (0, 0)) := Sr ⟨(A6 ⟨as42_2, ns42_2, rfl, hbs42_2, (R8 hss42_2 (le80.trans le136))⟩), ⟨(A6 ⟨ar132_1_2, nr132_1_2, rfl, hbr132_1_2, hsr132_1_2⟩), rfl⟩⟩ (by simp)
       refine Dv [5] ?_
       refine D1 6 ?_
       refine RU #[(vi (Ju x2 x64.text_ 0)), (vi 0), (.slice (some ⟨b139, 0, none⟩) [({ Op := s42.1, Value := s42.2.1, Kids := s42.2.2.1 } : Expr), r132.2].length 2)] hs141 le136 (fun w144 hs145 => ?_)
       obtain rfl := Aa h138
       exact Sm (by kernel_rfl) ⟨_, rfl, F7, ar132_0_0, nr132_0_0, (some ⟨b139, 0, none⟩), 2, (some b139, .cells ([(vi s42.1), (vi s42.2.1), (.slice as42_2 s42.2.2.1.length ns42_2), (vi r132.2.Op), (vi r132.2.Value), (.slice ar132_1_2 r132.2.Kids.length nr132_1_2)] : List Value).toArray 33 (0, 0)), hs145.pk3.pk2.pk3.pk3, le136, fI, hbr132_0_0, hsr132_0_0, hr143⟩
      ·rintro b146 F8 w147 rfl hs148 le149
       have h150 := Bn h131
       obtain rfl := Aa h150
       exact ⟨rfl, _, _, rfl, rfl, hs148.dr0.dr0, le149⟩
     ·rintro f w115 ⟨J128, rfl, F6, aj119_0, nj119_0, aj119_4, nj119_4, ej119_4, hs116, le117, ⟨_, rfl⟩, hbj119_0, hsj119_0, hrj119_4⟩
      have h152 := BU h127
      refine Ap ?_
      have hb156 := Sn hrj119_4
      obtain ⟨F9, hs153, le154, hs155⟩ := hs116.fr0 hrj119_4
      have hn157 := A0 h152 hnx63
      exact ⟨m60, Nat.lt_succ_self _, (J128.2.2.1, J128.2.2.2.1, J128.2.2.2.2, J128.1, J128.2.1), F9, aj119_4, nj119_4, aj119_0, nj119_0, hn157, hs153, (((le45.trans le80).trans le117).trans le154), fI, hb156, hs155, hbj119_0, (R8 hsj119_0 le154)⟩
     ·rintro c f w159 ⟨hd162, b158, F10, rfl, rfl, hs160, le161⟩
      have h163 := Bn h127
      refine AL ?_
      refine Ak ?_
      refine AL ?_
      have hret := Cf h163 hnx63
      subst hret
      refine .inr ?_
      obtain rfl := Aa h41
      exact ⟨hd162, .inr ⟨_, F10, rfl, rfl, hs160, (((le31.trans le45).trans le80).trans le161)⟩⟩
  ·rintro f w53 ⟨s52, F3, as52_3, ns52_3, rfl, hs54, le55, ⟨_, rfl⟩, hbs52_3, hss52_3⟩
   have h164 := Cu h41
   obtain rfl := Aa h164
   exact ⟨rfl, (.agg #[(vi 0), (vi 0), (.slice none ([] : List Expr).length 0)]), Av (l := [.cell 6 33]) (by kernel_rfl) (vs := [(.agg #[(vi 0), (vi 0), (.slice none ([] : List Expr).length 0)])]) ⟨b21, 0, rfl, Ai (t := 33) (g := true) (s := 3) (by kernel_rfl) hs54.at1 rfl (by decide), trivial⟩, .inl ⟨_, F3, _, _, rfl, rfl, hs54.dr1, (le31.trans le55), ⟨as52_3, ns52_3, none, 0, rfl, rfl, hbs52_3, hss52_3, R9, (.inl rfl)⟩⟩⟩
 ·rintro b165 F11 w166 rfl hs167 le168
  have h169 := Bn h26
  refine Ak ?_
  obtain rfl := Aa h169
  exact Cw hs167.dr0 le168
def Mp (sR145 : Ab -> Option (Aj ⊕ (Ab × Expr))) : Prop := ∀ {wb w0 : World} {Fb F0 : Mem} {Lf : Own} (hG : CI F0) (bp0 : Nat) (x0 : Ab) (a0_0 : Sy) (n0_0 : Nat) (hb0_0 : LC x0.l_.length n0_0) (hs0_0 : SlA Ag F0 a0_0 x0.l_) (hs0 : HS wb Fb w0 F0 ((some bp0, (.cells #[(.slice a0_0 x0.l_.length n0_0), (.int .i64 x0.open_)] 100 (0, 0))) :: Lf)) (r : (Aj ⊕ (Ab × Expr))), sR145 x0 = some r -> Calls Tryz.prog 145 ([(.pointer (some ⟨bp0, 0, none⟩))] : List Value).toArray w0 (BH wb Fb F0 Lf r (fun b => (.iface 158 (.agg #[(.int .i64 b.e_), (.int .i64 b.at_)]))) fun a F' v L' => ∃ (aq0_0 : Sy) (nq0_0 : Nat) (aq1_2 : Sy) (nq1_2 : Nat), v = (.agg #[(.int .i64 a.2.Op), (.int .i64 a.2.Value), (.slice aq1_2 a.2.Kids.length nq1_2)]) /\ L' = (some bp0, (.cells #[(.slice aq0_0 a.1.l_.length nq0_0), (.int .i64 a.1.open_)] 100 (0, 0))) :: Lf /\ LC a.1.l_.length nq0_0 /\ SlA Ag F' aq0_0 a.1.l_ /\ LC a.2.Kids.length nq1_2 /\ SlA Ao F' aq1_2 a.2.Kids)
theorem BG : An Tryz.prog 145 := fun _ _ => by kernel_rfl
def Mm (sR185 : Ab -> Option (Aj ⊕ (Ab × Expr))) : Prop := ∀ {wb w0 : World} {Fb F0 : Mem} {Lf : Own} (hG : CI F0) (bp0 : Nat) (x0 : Ab) (a0_0 : Sy) (n0_0 : Nat) (hb0_0 : LC x0.l_.length n0_0) (hs0_0 : SlA Ag F0 a0_0 x0.l_) (hs0 : HS wb Fb w0 F0 ((some bp0, (.cells #[(.slice a0_0 x0.l_.length n0_0), (.int .i64 x0.open_)] 100 (0, 0))) :: Lf)) (r : (Aj ⊕ (Ab × Expr))), sR185 x0 = some r -> Calls Tryz.prog 185 ([(.pointer (some ⟨bp0, 0, none⟩))] : List Value).toArray w0 (BH wb Fb F0 Lf r (fun b => (.iface 158 (.agg #[(.int .i64 b.e_), (.int .i64 b.at_)]))) fun a F' v L' => ∃ (aq0_0 : Sy) (nq0_0 : Nat) (aq1_2 : Sy) (nq1_2 : Nat), v = (.agg #[(.int .i64 a.2.Op), (.int .i64 a.2.Value), (.slice aq1_2 a.2.Kids.length nq1_2)]) /\ L' = (some bp0, (.cells #[(.slice aq0_0 a.1.l_.length nq0_0), (.int .i64 a.1.open_)] 100 (0, 0))) :: Lf /\ LC a.1.l_.length nq0_0 /\ SlA Ag F' aq0_0 a.1.l_ /\ LC a.2.Kids.length nq1_2 /\ SlA Ao F' aq1_2 a.2.Kids)
theorem GF : An Tryz.prog 185 := fun _ _ => by kernel_rfl
def J4 (sR212 : Ab -> Option (Aj ⊕ (Ab × Expr))) : Prop := ∀ {wb w0 : World} {Fb F0 : Mem} {Lf : Own} (hG : CI F0) (bp0 : Nat) (x0 : Ab) (a0_0 : Sy) (n0_0 : Nat) (hb0_0 : LC x0.l_.length n0_0) (hs0_0 : SlA Ag F0 a0_0 x0.l_) (hs0 : HS wb Fb w0 F0 ((some bp0, (.cells #[(.slice a0_0 x0.l_.length n0_0), (.int .i64 x0.open_)] 100 (0, 0))) :: Lf)) (r : (Aj ⊕ (Ab × Expr))), sR212 x0 = some r -> Calls Tryz.prog 212 ([(.pointer (some ⟨bp0, 0, none⟩))] : List Value).toArray w0 (BH wb Fb F0 Lf r (fun b => (.iface 158 (.agg #[(.int .i64 b.e_), (.int .i64 b.at_)]))) fun a F' v L' => ∃ (aq0_0 : Sy) (nq0_0 : Nat) (aq1_2 : Sy) (nq1_2 : Nat), v = (.agg #[(.int .i64 a.2.Op), (.int .i64 a.2.Value), (.slice aq1_2 a.2.Kids.length nq1_2)]) /\ L' = (some bp0, (.cells #[(.slice aq0_0 a.1.l_.length nq0_0), (.int .i64 a.1.open_)] 100 (0, 0))) :: Lf /\ LC a.1.l_.length nq0_0 /\ SlA Ag F' aq0_0 a.1.l_ /\ LC a.2.Kids.length nq1_2 /\ SlA Ao F' aq1_2 a.2.Kids)
theorem D9 : An Tryz.prog 212 := fun _ _ => by kernel_rfl
def Mj (sR226 : Ab -> Option (Aj ⊕ (Ab × Expr))) : Prop := ∀ {wb w0 : World} {Fb F0 : Mem} {Lf : Own} (hG : CI F0) (bp0 : Nat) (x0 : Ab) (a0_0 : Sy) (n0_0 : Nat) (hb0_0 : LC x0.l_.length n0_0) (hs0_0 : SlA Ag F0 a0_0 x0.l_) (hs0 : HS wb Fb w0 F0 ((some bp0, (.cells #[(.slice a0_0 x0.l_.length n0_0), (.int .i64 x0.open_)] 100 (0, 0))) :: Lf)) (r : (Aj ⊕ (Ab × Expr))), sR226 x0 = some r -> Calls Tryz.prog 226 ([(.pointer (some ⟨bp0, 0, none⟩))] : List Value).toArray w0 (BH wb Fb F0 Lf r (fun b => (.iface 158 (.agg #[(.int .i64 b.e_), (.int .i64 b.at_)]))) fun a F' v L' => ∃ (aq0_0 : Sy) (nq0_0 : Nat) (aq1_2 : Sy) (nq1_2 : Nat), v = (.agg #[(.int .i64 a.2.Op), (.int .i64 a.2.Value), (.slice aq1_2 a.2.Kids.length nq1_2)]) /\ L' = (some bp0, (.cells #[(.slice aq0_0 a.1.l_.length nq0_0), (.int .i64 a.1.open_)] 100 (0, 0))) :: Lf /\ LC a.1.l_.length nq0_0 /\ SlA Ag F' aq0_0 a.1.l_ /\ LC a.2.Kids.length nq1_2 /\ SlA Ao F' aq1_2 a.2.Kids)
theorem GA : An Tryz.prog 226 := fun _ _ => by kernel_rfl
def Mi (sR233 : Ab -> Option (Aj ⊕ (Ab × Expr))) : Prop := ∀ {wb w0 : World} {Fb F0 : Mem} {Lf : Own} (hG : CI F0) (bp0 : Nat) (x0 : Ab) (a0_0 : Sy) (n0_0 : Nat) (hb0_0 : LC x0.l_.length n0_0) (hs0_0 : SlA Ag F0 a0_0 x0.l_) (hs0 : HS wb Fb w0 F0 ((some bp0, (.cells #[(.slice a0_0 x0.l_.length n0_0), (.int .i64 x0.open_)] 100 (0, 0))) :: Lf)) (r : (Aj ⊕ (Ab × Expr))), sR233 x0 = some r -> Calls Tryz.prog 233 ([(.pointer (some ⟨bp0, 0, none⟩))] : List Value).toArray w0 (BH wb Fb F0 Lf r (fun b => (.iface 158 (.agg #[(.int .i64 b.e_), (.int .i64 b.at_)]))) fun a F' v L' => ∃ (aq0_0 : Sy) (nq0_0 : Nat) (aq1_2 : Sy) (nq1_2 : Nat), v = (.agg #[(.int .i64 a.2.Op), (.int .i64 a.2.Value), (.slice aq1_2 a.2.Kids.length nq1_2)]) /\ L' = (some bp0, (.cells #[(.slice aq0_0 a.1.l_.length nq0_0), (.int .i64 a.1.open_)] 100 (0, 0))) :: Lf /\ LC a.1.l_.length nq0_0 /\ SlA Ag F' aq0_0 a.1.l_ /\ LC a.2.Kids.length nq1_2 /\ SlA Ao F' aq1_2 a.2.Kids)
theorem BR : An Tryz.prog 233 := fun _ _ => by kernel_rfl
def Mh (sR239 : Ab -> Option (Aj ⊕ (Ab × Expr))) : Prop := ∀ {wb w0 : World} {Fb F0 : Mem} {Lf : Own} (hG : CI F0) (bp0 : Nat) (x0 : Ab) (a0_0 : Sy) (n0_0 : Nat) (hb0_0 : LC x0.l_.length n0_0) (hs0_0 : SlA Ag F0 a0_0 x0.l_) (hs0 : HS wb Fb w0 F0 ((some bp0, (.cells #[(.slice a0_0 x0.l_.length n0_0), (.int .i64 x0.open_)] 100 (0, 0))) :: Lf)) (r : (Aj ⊕ (Ab × Expr))), sR239 x0 = some r -> Calls Tryz.prog 239 ([(.pointer (some ⟨bp0, 0, none⟩))] : List Value).toArray w0 (BH wb Fb F0 Lf r (fun b => (.iface 158 (.agg #[(.int .i64 b.e_), (.int .i64 b.at_)]))) fun a F' v L' => ∃ (aq0_0 : Sy) (nq0_0 : Nat) (aq1_2 : Sy) (nq1_2 : Nat), v = (.agg #[(.int .i64 a.2.Op), (.int .i64 a.2.Value), (.slice aq1_2 a.2.Kids.length nq1_2)]) /\ L' = (some bp0, (.cells #[(.slice aq0_0 a.1.l_.length nq0_0), (.int .i64 a.1.open_)] 100 (0, 0))) :: Lf /\ LC a.1.l_.length nq0_0 /\ SlA Ag F' aq0_0 a.1.l_ /\ LC a.2.Kids.length nq1_2 /\ SlA Ao F' aq1_2 a.2.Kids)
theorem GB : An Tryz.prog 239 := fun _ _ => by kernel_rfl
def Mg (sR243 : Ab -> Option (Aj ⊕ (Ab × Expr))) : Prop := ∀ {wb w0 : World} {Fb F0 : Mem} {Lf : Own} (hG : CI F0) (bp0 : Nat) (x0 : Ab) (a0_0 : Sy) (n0_0 : Nat) (hb0_0 : LC x0.l_.length n0_0) (hs0_0 : SlA Ag F0 a0_0 x0.l_) (hs0 : HS wb Fb w0 F0 ((some bp0, (.cells #[(.slice a0_0 x0.l_.length n0_0), (.int .i64 x0.open_)] 100 (0, 0))) :: Lf)) (r : (Aj ⊕ (Ab × Expr))), sR243 x0 = some r -> Calls Tryz.prog 243 ([(.pointer (some ⟨bp0, 0, none⟩))] : List Value).toArray w0 (BH wb Fb F0 Lf r (fun b => (.iface 158 (.agg #[(.int .i64 b.e_), (.int .i64 b.at_)]))) fun a F' v L' => ∃ (aq0_0 : Sy) (nq0_0 : Nat) (aq1_2 : Sy) (nq1_2 : Nat), v = (.agg #[(.int .i64 a.2.Op), (.int .i64 a.2.Value), (.slice aq1_2 a.2.Kids.length nq1_2)]) /\ L' = (some bp0, (.cells #[(.slice aq0_0 a.1.l_.length nq0_0), (.int .i64 a.1.open_)] 100 (0, 0))) :: Lf /\ LC a.1.l_.length nq0_0 /\ SlA Ag F' aq0_0 a.1.l_ /\ LC a.2.Kids.length nq1_2 /\ SlA Ao F' aq1_2 a.2.Kids)
theorem GE : An Tryz.prog 243 := fun _ _ => by kernel_rfl
def Em (N : Nat) (sR185 : Ab -> Option (Aj ⊕ (Ab × Expr))) (x0 : Ab) : Option (Aj ⊕ (Ab × Expr)) :=
 ((Bv N x0 (fun y => sR185 y) (EK ([] : List (Sx × Int)) ([111, 114] : Sx) 5)).bind fun r37 => sk r37 (fun b49 => some (.inl b49)) (fun r40 => some (.inr (r40.1, r40.2))))
theorem GS (N : Nat) (sR185 : Ab -> Option (Aj ⊕ (Ab × Expr))) (hsR185 : Mm sR185) {wb w0 : World} {Fb F0 : Mem} {Lf : Own} (hG : CI F0) (bp0 : Nat) (x0 : Ab) (a0_0 : Sy) (n0_0 : Nat) (hb0_0 : LC x0.l_.length n0_0) (hs0_0 : SlA Ag F0 a0_0 x0.l_) (hs0 : HS wb Fb w0 F0 ((sb bp0 (Ad x0 a0_0 n0_0) 100) :: Lf)) (r : (Aj ⊕ (Ab × Expr))) (h : Em N sR185 x0 = some r) :
  Calls Tryz.prog 145 ([(pt bp0 0)] : List Value).toArray w0 (BH wb Fb F0 Lf r (fun b => (.iface 158 (.agg (AH b)))) fun a F' v L' => ∃ (aq0_0 : Sy) (nq0_0 : Nat) (aq1_2 : Sy) (nq1_2 : Nat), v = (.agg (Ae a.2 aq1_2 nq1_2)) /\ L' = (sb bp0 (Ad a.1 aq0_0 nq0_0) 100) :: Lf /\ LC a.1.l_.length nq0_0 /\ SlA Ag F' aq0_0 a.1.l_ /\ LC a.2.Kids.length nq1_2 /\ SlA Ao F' aq1_2 a.2.Kids) := by
 refine Go 9 Tryz.func145 ?_
 refine Sq (Rg [0] ?_)
 refine Al' 33 #[(vi 0), (vi 0), (.slice none ([] : List Expr).length 0)] hs0 (fun b21 w22 hs23 => ?_)
 refine Nss (Rg [0, 1, 2, 3, 4, 5, 6, 7] ?_)
 refine Vs 3 ?_
 refine RWP.makeMap (t := 198) (K := Fk) (T := Bu) (dst := (some 6)) (ty := 198) (g := none) (by kernel_rfl) rfl hs23 (fun b25 e26 w27 (hs28 : HS wb Fb w27 F0 (e26 :: (sb b21 #[(vi 0), (vi 0), (.slice none ([] : List Expr).length 0)] 33) :: (sb bp0 (Ad x0 a0_0 n0_0) 100) :: Lf)) hr29 => ?_)
 refine RWP.mapIns kl9 (ty := 0) (g := none) (mt := 198) (k := 9) (vt := 3) (m := (.tmp 6)) (x := (.const (.string ⟨([111, 114] : Sx).toArray⟩))) (y := (.const (vi 5))) (b := b25) (kx := ([111, 114] : Sx)) (u := 5) (kv := (.string ⟨(([111, 114] : Sx)).toArray⟩)) (v := (vi 5)) (K := Fk) (T := Bu) (by kernel_rfl) rfl rfl rfl rfl ⟨_, rfl, rfl⟩ ⟨_, rfl, rfl⟩ (by kernel_rfl) hs28 (q := 0) rfl hr29 (fun e30 w31 (hs32 : HS wb Fb w31 F0 (e30 :: (sb b21 #[(vi 0), (vi 0), (.slice none ([] : List Expr).length 0)] 33) :: (sb bp0 (Ad x0 a0_0 n0_0) 100) :: Lf)) hr33 => ?_)
 refine Vs 1 ?_
 obtain ⟨F1, hs34, le35, hm36⟩ : ∃ Fq, HS wb Fb w31 Fq ((sb b21 #[(vi 0), (vi 0), (.slice none ([] : List Expr).length 0)] 33) :: (sb bp0 (Ad x0 a0_0 n0_0) 100) :: Lf) /\ R5 F0 Fq /\ MpA Fk Bu Fq (some b25) (EK ([] : List (Sx × Int)) ([111, 114] : Sx) 5) := HS.freezeMap hs32 (i := 0) rfl hr33
 obtain ⟨r37, hr38, h39⟩ := bind_some h
 refine CP Bz (BK N (hG.mono le35) bp0 x0 a0_0 n0_0 hb0_0 (R8 hs0_0 le35) 185 [(pt bp0 0)] ([] : List Value) (fun y => sR185 y) GF (fun {_ _ _ _ _} hGe y ay_0 ny_0 hby_0 hsy_0 hs r h => hsR185 hGe bp0 y ay_0 ny_0 hby_0 hsy_0 hs r h) ((EK ([] : List (Sx × Int)) ([111, 114] : Sx) 5)) (some b25) hm36 hs34.pk1 _ hr38) ?_ ?_
 ·rintro r40 _ F2 w42 _ rfl hs43 le44 ⟨ar40_0_0, nr40_0_0, ar40_1_2, nr40_1_2, rfl, rfl, hbr40_0_0, hsr40_0_0, hbr40_1_2, hsr40_1_2⟩
  have h46 := BU h39
  refine St1 (Ae r40.2 ar40_1_2 nr40_1_2) hs43 (fun w47 hs48 => ?_)
  refine Nt ?_
  refine Rt ?_
  obtain rfl := Aa h46
  exact ⟨rfl, (.agg (Ae r40.2 ar40_1_2 nr40_1_2)), Av (l := [.cell 2 33]) (by kernel_rfl) (vs := [(.agg (Ae r40.2 ar40_1_2 nr40_1_2))]) ⟨b21, 0, rfl, Ai (t := 33) (g := true) (s := 3) (by kernel_rfl) hs48.at1 rfl (by decide), trivial⟩, .inl ⟨_, F2, _, _, rfl, rfl, hs48.dr1, (le35.trans le44), ⟨ar40_0_0, nr40_0_0, ar40_1_2, nr40_1_2, rfl, rfl, hbr40_0_0, hsr40_0_0, hbr40_1_2, hsr40_1_2⟩⟩⟩
 ·rintro b49 F3 w50 rfl hs51 le52
  have h53 := Bn h39
  refine Ak ?_
  obtain rfl := Aa h53
  exact Cw hs51.dr0 (le35.trans le52)
def Eo (N : Nat) (sR212 : Ab -> Option (Aj ⊕ (Ab × Expr))) (x0 : Ab) : Option (Aj ⊕ (Ab × Expr)) :=
 ((Bv N x0 (fun y => sR212 y) (EK ([] : List (Sx × Int)) ([97, 110, 100] : Sx) 4)).bind fun r37 => sk r37 (fun b49 => some (.inl b49)) (fun r40 => some (.inr (r40.1, r40.2))))
theorem GU (N : Nat) (sR212 : Ab -> Option (Aj ⊕ (Ab × Expr))) (hsR212 : J4 sR212) {wb w0 : World} {Fb F0 : Mem} {Lf : Own} (hG : CI F0) (bp0 : Nat) (x0 : Ab) (a0_0 : Sy) (n0_0 : Nat) (hb0_0 : LC x0.l_.length n0_0) (hs0_0 : SlA Ag F0 a0_0 x0.l_) (hs0 : HS wb Fb w0 F0 ((sb bp0 (Ad x0 a0_0 n0_0) 100) :: Lf)) (r : (Aj ⊕ (Ab × Expr))) (h : Eo N sR212 x0 = some r) :
  Calls Tryz.prog 185 ([(pt bp0 0)] : List Value).toArray w0 (BH wb Fb F0 Lf r (fun b => (.iface 158 (.agg (AH b)))) fun a F' v L' => ∃ (aq0_0 : Sy) (nq0_0 : Nat) (aq1_2 : Sy) (nq1_2 : Nat), v = (.agg (Ae a.2 aq1_2 nq1_2)) /\ L' = (sb bp0 (Ad a.1 aq0_0 nq0_0) 100) :: Lf /\ LC a.1.l_.length nq0_0 /\ SlA Ag F' aq0_0 a.1.l_ /\ LC a.2.Kids.length nq1_2 /\ SlA Ao F' aq1_2 a.2.Kids) := by
 refine Go 9 Tryz.func185 ?_
 refine Sq (Rg [0] ?_)
 refine Al' 33 #[(vi 0), (vi 0), (.slice none ([] : List Expr).length 0)] hs0 (fun b21 w22 hs23 => ?_)
 refine Nss (Rg [0, 1, 2, 3, 4, 5, 6, 7] ?_)
 refine Vs 3 ?_
 refine RWP.makeMap (t := 198) (K := Fk) (T := Bu) (dst := (some 6)) (ty := 198) (g := none) (by kernel_rfl) rfl hs23 (fun b25 e26 w27 (hs28 : HS wb Fb w27 F0 (e26 :: (sb b21 #[(vi 0), (vi 0), (.slice none ([] : List Expr).length 0)] 33) :: (sb bp0 (Ad x0 a0_0 n0_0) 100) :: Lf)) hr29 => ?_)
 refine RWP.mapIns kl9 (ty := 0) (g := none) (mt := 198) (k := 9) (vt := 3) (m := (.tmp 6)) (x := (.const (.string ⟨([97, 110, 100] : Sx).toArray⟩))) (y := (.const (vi 4))) (b := b25) (kx := ([97, 110, 100] : Sx)) (u := 4) (kv := (.string ⟨(([97, 110, 100] : Sx)).toArray⟩)) (v := (vi 4)) (K := Fk) (T := Bu) (by kernel_rfl) rfl rfl rfl rfl ⟨_, rfl, rfl⟩ ⟨_, rfl, rfl⟩ (by kernel_rfl) hs28 (q := 0) rfl hr29 (fun e30 w31 (hs32 : HS wb Fb w31 F0 (e30 :: (sb b21 #[(vi 0), (vi 0), (.slice none ([] : List Expr).length 0)] 33) :: (sb bp0 (Ad x0 a0_0 n0_0) 100) :: Lf)) hr33 => ?_)
 refine Vs 1 ?_
 obtain ⟨F1, hs34, le35, hm36⟩ : ∃ Fq, HS wb Fb w31 Fq ((sb b21 #[(vi 0), (vi 0), (.slice none ([] : List Expr).length 0)] 33) :: (sb bp0 (Ad x0 a0_0 n0_0) 100) :: Lf) /\ R5 F0 Fq /\ MpA Fk Bu Fq (some b25) (EK ([] : List (Sx × Int)) ([97, 110, 100] : Sx) 4) := HS.freezeMap hs32 (i := 0) rfl hr33
 obtain ⟨r37, hr38, h39⟩ := bind_some h
 refine CP Bz (BK N (hG.mono le35) bp0 x0 a0_0 n0_0 hb0_0 (R8 hs0_0 le35) 212 [(pt bp0 0)] ([] : List Value) (fun y => sR212 y) D9 (fun {_ _ _ _ _} hGe y ay_0 ny_0 hby_0 hsy_0 hs r h => hsR212 hGe bp0 y ay_0 ny_0 hby_0 hsy_0 hs r h) ((EK ([] : List (Sx × Int)) ([97, 110, 100] : Sx) 4)) (some b25) hm36 hs34.pk1 _ hr38) ?_ ?_
 ·rintro r40 _ F2 w42 _ rfl hs43 le44 ⟨ar40_0_0, nr40_0_0, ar40_1_2, nr40_1_2, rfl, rfl, hbr40_0_0, hsr40_0_0, hbr40_1_2, hsr40_1_2⟩
  have h46 := BU h39
  refine St1 (Ae r40.2 ar40_1_2 nr40_1_2) hs43 (fun w47 hs48 => ?_)
  refine Nt ?_
  refine Rt ?_
  obtain rfl := Aa h46
  exact ⟨rfl, (.agg (Ae r40.2 ar40_1_2 nr40_1_2)), Av (l := [.cell 2 33]) (by kernel_rfl) (vs := [(.agg (Ae r40.2 ar40_1_2 nr40_1_2))]) ⟨b21, 0, rfl, Ai (t := 33) (g := true) (s := 3) (by kernel_rfl) hs48.at1 rfl (by decide), trivial⟩, .inl ⟨_, F2, _, _, rfl, rfl, hs48.dr1, (le35.trans le44), ⟨ar40_0_0, nr40_0_0, ar40_1_2, nr40_1_2, rfl, rfl, hbr40_0_0, hsr40_0_0, hbr40_1_2, hsr40_1_2⟩⟩⟩
 ·rintro b49 F3 w50 rfl hs51 le52
  have h53 := Bn h39
  refine Ak ?_
  obtain rfl := Aa h53
  exact Cw hs51.dr0 (le35.trans le52)
def En (N : Nat) (sR212 : Ab -> Option (Aj ⊕ (Ab × Expr))) (sR226 : Ab -> Option (Aj ⊕ (Ab × Expr))) (x0 : Ab) : Option (Aj ⊕ (Ab × Expr)) :=
 ((Ar N x0 ([110, 111, 116] : Sx)).bind fun r24 => (bif r24.2 then ((sR212 r24.1).bind fun r34 => sk r34 (fun b55 => some (.inl b55)) (fun r37 => some (.inr (r37.1, ({ Op := 3, Value := 0, Kids := [r37.2] } : Expr))))) else ((sR226 r24.1).bind fun r61 => sk r61 (fun b73 => some (.inl b73)) (fun r64 => some (.inr (r64.1, r64.2))))))
theorem GT (N : Nat) (sR212 : Ab -> Option (Aj ⊕ (Ab × Expr))) (hsR212 : J4 sR212) (sR226 : Ab -> Option (Aj ⊕ (Ab × Expr))) (hsR226 : Mj sR226) {wb w0 : World} {Fb F0 : Mem} {Lf : Own} (hG : CI F0) (bp0 : Nat) (x0 : Ab) (a0_0 : Sy) (n0_0 : Nat) (hb0_0 : LC x0.l_.length n0_0) (hs0_0 : SlA Ag F0 a0_0 x0.l_) (hs0 : HS wb Fb w0 F0 ((sb bp0 (Ad x0 a0_0 n0_0) 100) :: Lf)) (r : (Aj ⊕ (Ab × Expr))) (h : En N sR212 sR226 x0 = some r) :
  Calls Tryz.prog 212 ([(pt bp0 0)] : List Value).toArray w0 (BH wb Fb F0 Lf r (fun b => (.iface 158 (.agg (AH b)))) fun a F' v L' => ∃ (aq0_0 : Sy) (nq0_0 : Nat) (aq1_2 : Sy) (nq1_2 : Nat), v = (.agg (Ae a.2 aq1_2 nq1_2)) /\ L' = (sb bp0 (Ad a.1 aq0_0 nq0_0) 100) :: Lf /\ LC a.1.l_.length nq0_0 /\ SlA Ag F' aq0_0 a.1.l_ /\ LC a.2.Kids.length nq1_2 /\ SlA Ao F' aq1_2 a.2.Kids) := by
 refine Go 11 Tryz.func212 ?_
 refine Sq (Rg [0] ?_)
 refine Al' 33 #[(vi 0), (vi 0), (.slice none ([] : List Expr).length 0)] hs0 (fun b21 w22 hs23 => ?_)
 refine Nss ?_
 refine Sq (Rg [0, 1] ?_)
 refine Vs 1 ?_
 obtain ⟨r24, hr25, h26⟩ := bind_some h
 refine CB AF (AG N bp0 x0 a0_0 n0_0 hb0_0 hs0_0 (([110, 111, 116] : Sx)) hs23.pk1 _ hr25) ?_
 rintro _ F1 w27 _ hs28 le29 ⟨ar24_0_0, nr24_0_0, rfl, rfl, hbr24_0_0, hsr24_0_0⟩
 refine Nt ?_
 refine Cd h26 (fun hb31 h32 => ?_) (fun hb31 h33 => ?_)
 ·refine Sq (Rg [0, 1, 2, 3, 4] ?_)
  refine Vs 1 ?_
  obtain ⟨r34, hr35, h36⟩ := bind_some h32
  refine CP D9 (hsR212 (hG.mono le29) bp0 r24.1 ar24_0_0 nr24_0_0 hbr24_0_0 hsr24_0_0 hs28 _ hr35) ?_ ?_
  ·rintro r37 _ F2 w39 _ rfl hs40 le41 ⟨ar37_0_0, nr37_0_0, ar37_1_2, nr37_1_2, rfl, rfl, hbr37_0_0, hsr37_0_0, hbr37_1_2, hsr37_1_2⟩
   have h43 := BU h36
   refine Bs 33 [(vi r37.2.Op), (vi r37.2.Value), (.slice ar37_1_2 r37.2.Kids.length nr37_1_2)] hs40 (fun b44 w45 hs46 => ?_)
   have hr48 : Au Ao 33 F2 (some ⟨b44, 0, none⟩) 1 [r37.2] (some b44, .cells ([(vi r37.2.Op), (vi r37.2.Value), (.slice ar37_1_2 r37.2.Kids.length nr37_1_2)] : List Value).toArray 33 (0, 0)) := Sr ⟨(A6 ⟨ar37_1_2, nr37_1_2, rfl, hbr37_1_2, hsr37_1_2⟩), rfl⟩ (by simp)
   refine Vs 1 ?_
   refine St2 #[(vi 3), (vi 0), (.slice (some ⟨b44, 0, none⟩) [r37.2].length 1)] hs46 (fun w49 hs50 => ?_)
   refine Nt ?_
   refine Rt ?_
   refine Af ?_
   have hb54 := Sn hr48
   obtain ⟨F3, hs51, le52, hs53⟩ := hs50.fr0 hr48
   obtain rfl := Aa h43
   exact ⟨rfl, (.agg #[(vi 3), (vi 0), (.slice (some ⟨b44, 0, none⟩) [r37.2].length 1)]), Av (l := [.cell 2 33]) (by kernel_rfl) (vs := [(.agg #[(vi 3), (vi 0), (.slice (some ⟨b44, 0, none⟩) [r37.2].length 1)])]) ⟨b21, 0, rfl, Ai (t := 33) (g := true) (s := 3) (by kernel_rfl) hs51.at1 rfl (by decide), trivial⟩, .inl ⟨_, F3, _, _, rfl, rfl, hs51.dr1, ((le29.trans le41).trans le52), ⟨ar37_0_0, nr37_0_0, (some ⟨b44, 0, none⟩), 1, rfl, rfl, hbr37_0_0, (R8 hsr37_0_0 le52), hb54, hs53⟩⟩⟩
  ·rintro b55 F4 w56 rfl hs57 le58
   have h59 := Bn h36
   refine Ak ?_
   refine Ak ?_
   obtain rfl := Aa h59
   exact Cw hs57.dr0 (le29.trans le58)
 ·refine Sc ?_
  refine Ac ?_
  refine Sq (Rg [0, 1, 2] ?_)
  refine Vs 1 ?_
  obtain ⟨r61, hr62, h63⟩ := bind_some h33
  refine CP GA (hsR226 (hG.mono le29) bp0 r24.1 ar24_0_0 nr24_0_0 hbr24_0_0 hsr24_0_0 hs28 _ hr62) ?_ ?_
  ·rintro r64 _ F5 w66 _ rfl hs67 le68 ⟨ar64_0_0, nr64_0_0, ar64_1_2, nr64_1_2, rfl, rfl, hbr64_0_0, hsr64_0_0, hbr64_1_2, hsr64_1_2⟩
   have h70 := BU h63
   refine St1 (Ae r64.2 ar64_1_2 nr64_1_2) hs67 (fun w71 hs72 => ?_)
   refine Nt ?_
   refine Rt ?_
   obtain rfl := Aa h70
   exact ⟨rfl, (.agg (Ae r64.2 ar64_1_2 nr64_1_2)), Av (l := [.cell 2 33]) (by kernel_rfl) (vs := [(.agg (Ae r64.2 ar64_1_2 nr64_1_2))]) ⟨b21, 0, rfl, Ai (t := 33) (g := true) (s := 3) (by kernel_rfl) hs72.at1 rfl (by decide), trivial⟩, .inl ⟨_, F5, _, _, rfl, rfl, hs72.dr1, (le29.trans le68), ⟨ar64_0_0, nr64_0_0, ar64_1_2, nr64_1_2, rfl, rfl, hbr64_0_0, hsr64_0_0, hbr64_1_2, hsr64_1_2⟩⟩⟩
  ·rintro b73 F6 w74 rfl hs75 le76
   have h77 := Bn h63
   refine Ak ?_
   obtain rfl := Aa h77
   exact Cw hs75.dr0 (le29.trans le76)
theorem KQ {N : Nat} {p q : Ab} {t : Sx} (h : Ar N p t = some (q, false)) : q = p := by
 unfold Ar at h
 cases hp : AP N p t with
 | none => rw [hp] at h; cases h
 | some b =>
  rw [hp] at h
  cases b with
  | false => simp at h; exact h.symm
  | true =>
   simp only [Option.bind_some, Bool.not_true, cond_false] at h
   cases hs : sub p.l_ 1 (p.l_.length : Int) with
   | none => rw [hs] at h; cases h
   | some l => rw [hs] at h; simp at h
theorem OH {N : Nat} {p : Ab} {t : Sx} (h : AP N p t = some true) : ∃ x, idx p.l_ 0 = some x /\ x.text_ = t := by
 unfold AP at h
 cases hi : idx p.l_ 0 with
 | none => rw [hi] at h; cases h
 | some x =>
  rw [hi] at h
  refine ⟨x, rfl, ?_⟩
  simp only [Option.bind_some] at h
  cases h2 : (x.kind_ == 2) <;> cases h3 : (x.kind_ == 3) <;> rw [h2] at h <;> try rw [h3] at h
  all_goals simp at h
  all_goals exact h
theorem Nv {N : Nat} {p : Ab} {s t : Sx} (h : AP N p s = some true) (hne : s ≠ t) : AP N p t = some false := by
 obtain ⟨x, hx, hs⟩ := OH h
 unfold AP at h ⊢
 rw [hx] at h ⊢
 simp only [Option.bind_some] at h ⊢
 have hne' : (x.text_ == t) = false := by rw [hs]; simpa using hne
 rw [hne']
 cases h2 : (x.kind_ == 2) <;> cases h3 : (x.kind_ == 3) <;> simp
theorem Md {N : Nat} {p q : Ab} {s t : Sx} (h : Ar N p s = some (q, true)) (hne : s ≠ t) : Ar N p t = some (p, false) := by
 unfold Ar at h ⊢
 cases hp : AP N p s with
 | none => rw [hp] at h; cases h
 | some b =>
  rw [hp] at h
  cases b with
  | false => simp at h
  | true => rw [Nv hp hne]; rfl
theorem JE {N : Nat} {p : Ab} {α : Type} {X6 X7 Z : Ab × Bool -> Option α} {r : α}
  (h : ((Ar N p ([61] : Sx)).bind fun a => (bif a.2 then X6 a else ((Ar N a.1 ([60] : Sx)).bind fun b => (bif b.2 then X7 b else Z b)))) = some r) :
  ((Ar N p ([60] : Sx)).bind fun a => (bif a.2 then X7 a else ((Ar N a.1 ([61] : Sx)).bind fun b => (bif b.2 then X6 b else Z b)))) = some r := by
 cases ha : Ar N p [61] with
 | none => rw [ha] at h; cases h
 | some a =>
  obtain ⟨q, b⟩ := a
  rw [ha] at h
  simp only [Option.bind_some] at h
  cases b with
  | true =>
   rw [Md ha (by decide)]
   simp only [cond_true] at h
   simp only [Option.bind_some, cond_false, ha, cond_true]; exact h
  | false =>
   obtain rfl := KQ ha
   simp only [cond_false] at h
   cases hb : Ar N q [60] with
   | none => rw [hb] at h; cases h
   | some b =>
    obtain ⟨q2, c⟩ := b
    rw [hb] at h
    simp only [Option.bind_some] at h ⊢
    cases c with
    | true => simpa using h
    | false =>
     obtain rfl := KQ hb
     simp only [cond_false, ha, Option.bind_some] at h ⊢
     exact h
def Ej (N : Nat) (sR233 : Ab -> Option (Aj ⊕ (Ab × Expr))) (x0 : Ab) : Option (Aj ⊕ (Ab × Expr)) :=
 ((sR233 x0).bind fun r24 => sk r24 (fun b291 => some (.inl b291)) (fun r27 => ((Ar N r27.1 ([61] : Sx)).bind fun r51 => (bif r51.2 then (((sR233 r51.1).bind fun r73 => sk r73 (fun b90 => some (.inl b90)) (fun r76 => some (.inr (6, [r27.2, r76.2], r76.1.l_, r76.1.open_)))).bind fun j67 => sk j67 (fun b101 => some (.inl b101)) (fun J72 => some (.inr (({ l_ := J72.2.2.1, open_ := J72.2.2.2 } : Ab), ({ Op := J72.1, Value := 0, Kids := J72.2.1 } : Expr))))) else ((Ar N r51.1 ([60] : Sx)).bind fun r109 => (bif r109.2 then (((sR233 r109.1).bind fun r131 => sk r131 (fun b148 => some (.inl b148)) (fun r134 => some (.inr (7, [r27.2, r134.2], r134.1.l_, r134.1.open_)))).bind fun j125 => sk j125 (fun b159 => some (.inl b159)) (fun J130 => some (.inr (({ l_ := J130.2.2.1, open_ := J130.2.2.2 } : Ab), ({ Op := J130.1, Value := 0, Kids := J130.2.1 } : Expr))))) else some (.inr (r109.1, r27.2))))))))
theorem GP (N : Nat) (sR233 : Ab -> Option (Aj ⊕ (Ab × Expr))) (hsR233 : Mi sR233) {wb w0 : World} {Fb F0 : Mem} {Lf : Own} (hG : CI F0) (bp0 : Nat) (x0 : Ab) (a0_0 : Sy) (n0_0 : Nat) (hb0_0 : LC x0.l_.length n0_0) (hs0_0 : SlA Ag F0 a0_0 x0.l_) (hs0 : HS wb Fb w0 F0 ((sb bp0 (Ad x0 a0_0 n0_0) 100) :: Lf)) (r : (Aj ⊕ (Ab × Expr))) (h : Ej N sR233 x0 = some r) :
  Calls Tryz.prog 226 ([(pt bp0 0)] : List Value).toArray w0 (BH wb Fb F0 Lf r (fun b => (.iface 158 (.agg (AH b)))) fun a F' v L' => ∃ (aq0_0 : Sy) (nq0_0 : Nat) (aq1_2 : Sy) (nq1_2 : Nat), v = (.agg (Ae a.2 aq1_2 nq1_2)) /\ L' = (sb bp0 (Ad a.1 aq0_0 nq0_0) 100) :: Lf /\ LC a.1.l_.length nq0_0 /\ SlA Ag F' aq0_0 a.1.l_ /\ LC a.2.Kids.length nq1_2 /\ SlA Ao F' aq1_2 a.2.Kids) := by
 refine Go 26 Tryz.func226 ?_
 refine Sq (Rg [0] ?_)
 refine Al' 33 #[(vi 0), (vi 0), (.slice none ([] : List Expr).length 0)] hs0 (fun b21 w22 hs23 => ?_)
 refine Nss (Rg [0, 1, 2, 3] ?_)
 refine Vs 1 ?_
 obtain ⟨r24, hr25, h26⟩ := bind_some h
 refine CP BR (hsR233 hG bp0 x0 a0_0 n0_0 hb0_0 hs0_0 hs23.pk1 _ hr25) ?_ ?_
 ·rintro r27 _ F1 w29 _ rfl hs30 le31 ⟨ar27_0_0, nr27_0_0, ar27_1_2, nr27_1_2, rfl, rfl, hbr27_0_0, hsr27_0_0, hbr27_1_2, hsr27_1_2⟩
  have h33 := BU h26
  refine Al' 33 #[(vi 0), (vi 0), (.slice none ([] : List Expr).length 0)] hs30 (fun b34 w35 hs36 => ?_)
  refine St0 (Ae r27.2 ar27_1_2 nr27_1_2) hs36 (fun w37 hs38 => ?_)
  refine Nss ?_
  refine Sq (Rg [0, 1, 2, 3, 4] ?_)
  refine RWP.litMap (dst := (some 8)) (ty := 198) (g := none) (by kernel_rfl) rfl (t := 198) hs38 (fun b39 w40 (hs41 : HS wb Fb w40 F1 ((some b39, (.map #[] 0)) :: (sb b34 (Ae r27.2 ar27_1_2 nr27_1_2) 33) :: (sb bp0 (Ad r27.1 ar27_0_0 nr27_0_0) 100) :: (sb b21 #[(vi 0), (vi 0), (.slice none ([] : List Expr).length 0)] 33) :: Lf)) => ?_)
  refine RWP.litIns (d := .string) (k := 9) (vt := 3) (ty := 0) (g := none) (mt := 198) (m := (.tmp 8)) (x := (.const (.string ⟨([61] : Sx).toArray⟩))) (y := (.const (vi 6))) (b := b39) (q := 0) (kv := (.string ⟨(([61] : Sx)).toArray⟩)) (v := (vi 6)) (by kernel_rfl) rfl rfl rfl rfl (by kernel_rfl) (by kernel_rfl) trivial (by kernel_rfl) hs41 rfl rfl (fun w42 (hs43 : HS wb Fb w42 F1 ((some b39, (.map #[⟨(.string ⟨(([61] : Sx)).toArray⟩), (vi 6), 0⟩] 1)) :: (sb b34 (Ae r27.2 ar27_1_2 nr27_1_2) 33) :: (sb bp0 (Ad r27.1 ar27_0_0 nr27_0_0) 100) :: (sb b21 #[(vi 0), (vi 0), (.slice none ([] : List Expr).length 0)] 33) :: Lf)) => ?_)
  refine RWP.litIns (d := .string) (k := 9) (vt := 3) (ty := 0) (g := none) (mt := 198) (m := (.tmp 8)) (x := (.const (.string ⟨([60] : Sx).toArray⟩))) (y := (.const (vi 7))) (b := b39) (q := 0) (kv := (.string ⟨(([60] : Sx)).toArray⟩)) (v := (vi 7)) (by kernel_rfl) rfl rfl rfl rfl (by kernel_rfl) (by kernel_rfl) trivial (by kernel_rfl) hs43 rfl rfl (fun w44 (hs45 : HS wb Fb w44 F1 ((some b39, (.map #[⟨(.string ⟨(([61] : Sx)).toArray⟩), (vi 6), 0⟩, ⟨(.string ⟨(([60] : Sx)).toArray⟩), (vi 7), 1⟩] 2)) :: (sb b34 (Ae r27.2 ar27_1_2 nr27_1_2) 33) :: (sb bp0 (Ad r27.1 ar27_0_0 nr27_0_0) 100) :: (sb b21 #[(vi 0), (vi 0), (.slice none ([] : List Expr).length 0)] 33) :: Lf)) => ?_)
  refine Vs 1 ?_
  refine RWP.litRange (k := 9) (vt := 3) (dst := (some 10)) (ty := 0) (g := none) (by kernel_rfl) rfl (mt := 198) (x := (.tmp 9)) (b := b39) (q := 0) rfl (by kernel_rfl) hs45 rfl (fun b46 w47 (hs48 : HS wb Fb w47 F1 ((some b46, (.mapIter (some b39) 2 #[] 2)) :: (some b39, (.map #[⟨(.string ⟨(([61] : Sx)).toArray⟩), (vi 6), 0⟩, ⟨(.string ⟨(([60] : Sx)).toArray⟩), (vi 7), 1⟩] 2)) :: (sb b34 (Ae r27.2 ar27_1_2 nr27_1_2) 33) :: (sb bp0 (Ad r27.1 ar27_0_0 nr27_0_0) 100) :: (sb b21 #[(vi 0), (vi 0), (.slice none ([] : List Expr).length 0)] 33) :: Lf)) => ?_)
  refine Nt ?_
  refine Bk ?_
  refine CWP.unroll (by kernel_rfl) 4 ?_
  refine URL.step ?_
  refine Sq (Rg [0, 1] ?_)
  refine RWP.litNext2  (e := ⟨(.string ⟨(([61] : Sx)).toArray⟩), (vi 6), 0⟩) (e2 := ⟨(.string ⟨(([60] : Sx)).toArray⟩), (vi 7), 1⟩) (dst := (some 11)) (ty := 0) (g := none) (by kernel_rfl) rfl (x := (.tmp 10)) (r := b46) (ki := 0) (km := 1) rfl hs48 rfl rfl (by kernel_rfl) (by kernel_rfl) ?_ ?_
  ·rintro w49 (hs50 : HS wb Fb w49 F1 ((some b46, (.mapIter (some b39) 2 #[0] 2)) :: (some b39, (.map #[⟨(.string ⟨(([61] : Sx)).toArray⟩), (vi 6), 0⟩, ⟨(.string ⟨(([60] : Sx)).toArray⟩), (vi 7), 1⟩] 2)) :: (sb b34 (Ae r27.2 ar27_1_2 nr27_1_2) 33) :: (sb bp0 (Ad r27.1 ar27_0_0 nr27_0_0) 100) :: (sb b21 #[(vi 0), (vi 0), (.slice none ([] : List Expr).length 0)] 33) :: Lf))
   refine Vs 1 ?_
   refine Nss ?_
   refine C1 (rfl : true = true) ?_
   refine Sc ?_
   refine Ac ?_
   refine Bk ?_
   refine Sq (Rg [0, 1, 2, 3, 4] ?_)
   refine V 13 0 (Et (x := (.tmp 10)) (en := ⟨(.string ⟨(([61] : Sx)).toArray⟩), (vi 6), 0⟩) rfl (hs50.ownAt (k := 0) rfl) (hs50.ownAt (k := 1) rfl) rfl rfl) ?_
   refine Vs 4 ?_
   refine Nss (Rg [0, 1, 2] ?_)
   refine Vs 2 ?_
   obtain ⟨r51, hr52, h53⟩ := bind_some h33
   refine CB AF (AG N bp0 r27.1 ar27_0_0 nr27_0_0 hbr27_0_0 hsr27_0_0 (([61] : Sx)) hs50.pk4.pk3.pk3.pk3.pk4 _ hr52) ?_
   rintro _ F2 w54 _ hs55 le56 ⟨ar51_0_0, nr51_0_0, rfl, rfl, hbr51_0_0, hsr51_0_0⟩
   refine Nt ?_
   refine Cd h53 (fun hb58 h59 => ?_) (fun hb58 h60 => ?_)
   ·refine Sq ?_
    obtain ⟨j67, hj70, h71⟩ := bind_some h59
    refine RDP 6 7 [(some b46, (.mapIter (some b39) 2 #[0] 2)), (some b39, (.map #[⟨(.string ⟨(([61] : Sx)).toArray⟩), (vi 6), 0⟩, ⟨(.string ⟨(([60] : Sx)).toArray⟩), (vi 7), 1⟩] 2)), (sb b34 (Ae r27.2 ar27_1_2 nr27_1_2) 33)] [(sb b21 #[(vi 0), (vi 0), (.slice none ([] : List Expr).length 0)] 33)] hs55 (fun c d w => d = [] /\ ∃ (b : Aj) (Fp : Mem), j67 = .inl b /\ c = [{ v := (.iface 158 (.agg (AH b))), recovered := false }] /\ HS wb Fb w Fp Lf /\ R5 F2 Fp) (fun f w => ∃ (J72 : (Int × List Expr × List Aq × Int)), j67 = .inr J72 /\ ∃ (F3 : Mem) (aj67_1 : Sy) (nj67_1 : Nat) (ej67_1 : Option Nat × Obj) (aj67_2 : Sy) (nj67_2 : Nat), HS wb Fb w F3 (ej67_1 :: (sb bp0 #[(.slice aj67_2 J72.2.2.1.length nj67_2), (vi J72.2.2.2)] 100) :: (sb b21 #[(vi J72.1), (vi 0), (.slice aj67_1 J72.2.1.length nj67_1)] 33) :: Lf) /\ R5 F2 F3 /\ FI f [] [(2, (pt b21 0))] /\ Au Ao 33 F3 aj67_1 nj67_1 J72.2.1 ej67_1 /\ LC J72.2.2.1.length nj67_2 /\ SlA Ag F3 aj67_2 J72.2.2.1) (fun wd61 hw62 => ?_) ?_ ?_
    ·refine Dv [0] ?_
     refine Dl 1 (fun _ hq => (hq.1.2 2 _ _ rfl)) ?_
     refine Dv [2] ?_
     refine D1 3 ?_
     obtain ⟨r73, hr74, h75⟩ := bind_some hj70
     refine DCP BR (hsR233 (hG.mono (le31.trans le56)) bp0 r51.1 ar51_0_0 nr51_0_0 hbr51_0_0 hsr51_0_0 hw62 _ hr74) ?_ ?_
     ·rintro r76 _ F4 w78 _ rfl hs79 le80 ⟨ar76_0_0, nr76_0_0, ar76_1_2, nr76_1_2, rfl, rfl, hbr76_0_0, hsr76_0_0, hbr76_1_2, hsr76_1_2⟩
      have h82 := BU h75
      refine ⟨BF hs79 le80 (by simp) (fun _ => by simp), ?_⟩
      refine D1 4 ?_
      refine DBs 33 [(vi r27.2.Op), (vi r27.2.Value), (.slice ar27_1_2 r27.2.Kids.length nr27_1_2), (vi r76.2.Op), (vi r76.2.Value), (.slice ar76_1_2 r76.2.Kids.length nr76_1_2)] hs79 le80 (fun b83 w84 hs85 => ?_)
      have hr87 : Au Ao 33 F4 (some ⟨b83, 0, none⟩) 2 [r27.2, r76.2] (some b83, .cells ([(vi r27.2.Op), (vi r27.2.Value), (.slice ar27_1_2 r27.2.Kids.length nr27_1_2), (vi r76.2.Op), (vi r76.2.Value), (.slice ar76_1_2 r76.2.Kids.length nr76_1_2)] : List Value).toArray 33 (0, 0)) := Sr ⟨(A6 ⟨ar27_1_2, nr27_1_2, rfl, hbr27_1_2, (R8 hsr27_1_2 (le56.trans le80))⟩), ⟨(A6 ⟨ar76_1_2, nr76_1_2, rfl, hbr76_1_2, hsr76_1_2⟩), rfl⟩⟩ (by simp)
      refine Dv [5] ?_
      refine D1 6 ?_
      refine Qv #[(vi 6), (vi 0), (.slice (some ⟨b83, 0, none⟩) [r27.2, r76.2].length 2)] hs85 le80 (fun w88 hs89 => ?_)
      obtain rfl := Aa h82
      exact Sm (by kernel_rfl) ⟨_, rfl, F4, (some ⟨b83, 0, none⟩), 2, (some b83, .cells ([(vi r27.2.Op), (vi r27.2.Value), (.slice ar27_1_2 r27.2.Kids.length nr27_1_2), (vi r76.2.Op), (vi r76.2.Value), (.slice ar76_1_2 r76.2.Kids.length nr76_1_2)] : List Value).toArray 33 (0, 0)), ar76_0_0, nr76_0_0, hs89.dr2.dr2.dr2, le80, fI, hr87, hbr76_0_0, hsr76_0_0⟩
     ·rintro b90 F5 w91 rfl hs92 le93
      have h94 := Bn h75
      obtain rfl := Aa h94
      exact ⟨rfl, _, _, rfl, rfl, hs92.dr0.dr0.dr0.dr0, le93⟩
    ·rintro f w63 ⟨J72, rfl, F3, aj67_1, nj67_1, ej67_1, aj67_2, nj67_2, hs64, le65, ⟨_, rfl⟩, hrj67_1, hbj67_2, hsj67_2⟩
     have h96 := BU h71
     refine Ac ?_
     refine Rt ?_
     refine Ah ?_
     refine Af ?_
     refine Ah ?_
     refine Af ?_
     have hb100 := Sn hrj67_1
     obtain ⟨F6, hs97, le98, hs99⟩ := hs64.fr0 hrj67_1
     obtain rfl := Aa h96
     exact ⟨rfl, (.agg #[(vi J72.1), (vi 0), (.slice aj67_1 J72.2.1.length nj67_1)]), Av (l := [.cell 2 33]) (by kernel_rfl) (vs := [(.agg #[(vi J72.1), (vi 0), (.slice aj67_1 J72.2.1.length nj67_1)])]) ⟨b21, 0, rfl, Ai (t := 33) (g := true) (s := 3) (by kernel_rfl) hs97.at1 rfl (by decide), trivial⟩, .inl ⟨_, F6, _, _, rfl, rfl, hs97.dr1, (((le31.trans le56).trans le65).trans le98), ⟨aj67_2, nj67_2, aj67_1, nj67_1, rfl, rfl, hbj67_2, (R8 hsj67_2 le98), hb100, hs99⟩⟩⟩
    ·rintro c f w102 ⟨hd105, b101, F7, rfl, rfl, hs103, le104⟩
     have h106 := Bn h71
     refine Ak ?_
     refine AL ?_
     refine Ak ?_
     refine AL ?_
     refine Ak ?_
     obtain rfl := Aa h106
     exact ⟨hd105, .inr ⟨_, F7, rfl, rfl, hs103, ((le31.trans le56).trans le104)⟩⟩
   ·refine Sc ?_
    refine Ap ?_
    refine Ac ?_
    refine URL.step ?_
    refine Sq (Rg [0, 1] ?_)
    refine RWP.litNext1  (e := ⟨(.string ⟨(([60] : Sx)).toArray⟩), (vi 7), 1⟩) (dst := (some 11)) (ty := 0) (g := none) (by kernel_rfl) rfl (x := (.tmp 10)) (r := b46) (ki := 1) (km := 2) rfl hs55 rfl rfl (by kernel_rfl) (by kernel_rfl) ?_
    ·rintro w107 (hs108 : HS wb Fb w107 F2 ((sb bp0 (Ad r51.1 ar51_0_0 nr51_0_0) 100) :: (some b46, (.mapIter (some b39) 2 #[0, 1] 2)) :: (some b39, (.map #[⟨(.string ⟨(([61] : Sx)).toArray⟩), (vi 6), 0⟩, ⟨(.string ⟨(([60] : Sx)).toArray⟩), (vi 7), 1⟩] 2)) :: (sb b34 (Ae r27.2 ar27_1_2 nr27_1_2) 33) :: (sb b21 #[(vi 0), (vi 0), (.slice none ([] : List Expr).length 0)] 33) :: Lf))
     refine Vs 1 ?_
     refine Nss ?_
     refine C1 (rfl : true = true) ?_
     refine Sc ?_
     refine Ac ?_
     refine Bk ?_
     refine Sq (Rg [0, 1, 2, 3, 4] ?_)
     refine V 13 0 (Et (x := (.tmp 10)) (en := ⟨(.string ⟨(([60] : Sx)).toArray⟩), (vi 7), 1⟩) rfl (hs108.ownAt (k := 1) rfl) (hs108.ownAt (k := 2) rfl) rfl rfl) ?_
     refine Vs 4 ?_
     refine Nss (Rg [0, 1, 2] ?_)
     refine Vs 2 ?_
     obtain ⟨r109, hr110, h111⟩ := bind_some h60
     refine CB AF (AG N bp0 r51.1 ar51_0_0 nr51_0_0 hbr51_0_0 hsr51_0_0 (([60] : Sx)) hs108 _ hr110) ?_
     rintro _ F8 w112 _ hs113 le114 ⟨ar109_0_0, nr109_0_0, rfl, rfl, hbr109_0_0, hsr109_0_0⟩
     refine Nt ?_
     refine Cd h111 (fun hb116 h117 => ?_) (fun hb116 h118 => ?_)
     ·refine Sq ?_
      obtain ⟨j125, hj128, h129⟩ := bind_some h117
      refine RDP 6 7 [(some b46, (.mapIter (some b39) 2 #[0, 1] 2)), (some b39, (.map #[⟨(.string ⟨(([61] : Sx)).toArray⟩), (vi 6), 0⟩, ⟨(.string ⟨(([60] : Sx)).toArray⟩), (vi 7), 1⟩] 2)), (sb b34 (Ae r27.2 ar27_1_2 nr27_1_2) 33)] [(sb b21 #[(vi 0), (vi 0), (.slice none ([] : List Expr).length 0)] 33)] hs113 (fun c d w => d = [] /\ ∃ (b : Aj) (Fp : Mem), j125 = .inl b /\ c = [{ v := (.iface 158 (.agg (AH b))), recovered := false }] /\ HS wb Fb w Fp Lf /\ R5 F8 Fp) (fun f w => ∃ (J130 : (Int × List Expr × List Aq × Int)), j125 = .inr J130 /\ ∃ (F9 : Mem) (aj125_1 : Sy) (nj125_1 : Nat) (ej125_1 : Option Nat × Obj) (aj125_2 : Sy) (nj125_2 : Nat), HS wb Fb w F9 (ej125_1 :: (sb bp0 #[(.slice aj125_2 J130.2.2.1.length nj125_2), (vi J130.2.2.2)] 100) :: (sb b21 #[(vi J130.1), (vi 0), (.slice aj125_1 J130.2.1.length nj125_1)] 33) :: Lf) /\ R5 F8 F9 /\ FI f [] [(2, (pt b21 0))] /\ Au Ao 33 F9 aj125_1 nj125_1 J130.2.1 ej125_1 /\ LC J130.2.2.1.length nj125_2 /\ SlA Ag F9 aj125_2 J130.2.2.1) (fun wd119 hw120 => ?_) ?_ ?_
      ·refine Dv [0] ?_
       refine Dl 1 (fun _ hq => (hq.1.2 2 _ _ rfl)) ?_
       refine Dv [2] ?_
       refine D1 3 ?_
       obtain ⟨r131, hr132, h133⟩ := bind_some hj128
       refine DCP BR (hsR233 (hG.mono ((le31.trans le56).trans le114)) bp0 r109.1 ar109_0_0 nr109_0_0 hbr109_0_0 hsr109_0_0 hw120 _ hr132) ?_ ?_
       ·rintro r134 _ F10 w136 _ rfl hs137 le138 ⟨ar134_0_0, nr134_0_0, ar134_1_2, nr134_1_2, rfl, rfl, hbr134_0_0, hsr134_0_0, hbr134_1_2, hsr134_1_2⟩
        have h140 := BU h133
        refine ⟨BF hs137 le138 (by simp) (fun _ => by simp), ?_⟩
        refine D1 4 ?_
        refine DBs 33 [(vi r27.2.Op), (vi r27.2.Value), (.slice ar27_1_2 r27.2.Kids.length nr27_1_2), (vi r134.2.Op), (vi r134.2.Value), (.slice ar134_1_2 r134.2.Kids.length nr134_1_2)] hs137 le138 (fun b141 w142 hs143 => ?_)
        have hr145 : Au Ao 33 F10 (some ⟨b141, 0, none⟩) 2 [r27.2, r134.2] (some b141, .cells ([(vi r27.2.Op), (vi r27.2.Value), (.slice ar27_1_2 r27.2.Kids.length nr27_1_2), (vi r134.2.Op), (vi r134.2.Value), (.slice ar134_1_2 r134.2.Kids.length nr134_1_2)] : List Value).toArray 33 (0, 0)) := Sr ⟨(A6 ⟨ar27_1_2, nr27_1_2, rfl, hbr27_1_2, (R8 hsr27_1_2 ((le56.trans le114).trans le138))⟩), ⟨(A6 ⟨ar134_1_2, nr134_1_2, rfl, hbr134_1_2, hsr134_1_2⟩), rfl⟩⟩ (by simp)
        refine Dv [5] ?_
        refine D1 6 ?_
        refine Qv #[(vi 7), (vi 0), (.slice (some ⟨b141, 0, none⟩) [r27.2, r134.2].length 2)] hs143 le138 (fun w146 hs147 => ?_)
        obtain rfl := Aa h140
        exact Sm (by kernel_rfl) ⟨_, rfl, F10, (some ⟨b141, 0, none⟩), 2, (some b141, .cells ([(vi r27.2.Op), (vi r27.2.Value), (.slice ar27_1_2 r27.2.Kids.length nr27_1_2), (vi r134.2.Op), (vi r134.2.Value), (.slice ar134_1_2 r134.2.Kids.length nr134_1_2)] : List Value).toArray 33 (0, 0)), ar134_0_0, nr134_0_0, hs147.dr2.dr2.dr2, le138, fI, hr145, hbr134_0_0, hsr134_0_0⟩
       ·rintro b148 F11 w149 rfl hs150 le151
        have h152 := Bn h133
        obtain rfl := Aa h152
        exact ⟨rfl, _, _, rfl, rfl, hs150.dr0.dr0.dr0.dr0, le151⟩
      ·rintro f w121 ⟨J130, rfl, F9, aj125_1, nj125_1, ej125_1, aj125_2, nj125_2, hs122, le123, ⟨_, rfl⟩, hrj125_1, hbj125_2, hsj125_2⟩
       have h154 := BU h129
       refine Ac ?_
       refine Rt ?_
       refine Ah ?_
       refine Af ?_
       refine Ah ?_
       refine Af ?_
       have hb158 := Sn hrj125_1
       obtain ⟨F12, hs155, le156, hs157⟩ := hs122.fr0 hrj125_1
       obtain rfl := Aa h154
       exact ⟨rfl, (.agg #[(vi J130.1), (vi 0), (.slice aj125_1 J130.2.1.length nj125_1)]), Av (l := [.cell 2 33]) (by kernel_rfl) (vs := [(.agg #[(vi J130.1), (vi 0), (.slice aj125_1 J130.2.1.length nj125_1)])]) ⟨b21, 0, rfl, Ai (t := 33) (g := true) (s := 3) (by kernel_rfl) hs155.at1 rfl (by decide), trivial⟩, .inl ⟨_, F12, _, _, rfl, rfl, hs155.dr1, ((((le31.trans le56).trans le114).trans le123).trans le156), ⟨aj125_2, nj125_2, aj125_1, nj125_1, rfl, rfl, hbj125_2, (R8 hsj125_2 le156), hb158, hs157⟩⟩⟩
      ·rintro c f w160 ⟨hd163, b159, F13, rfl, rfl, hs161, le162⟩
       have h164 := Bn h129
       refine Ak ?_
       refine AL ?_
       refine Ak ?_
       refine AL ?_
       refine Ak ?_
       obtain rfl := Aa h164
       exact ⟨hd163, .inr ⟨_, F13, rfl, rfl, hs161, (((le31.trans le56).trans le114).trans le162)⟩⟩
     ·refine Sc ?_
      refine Ap ?_
      refine Ac ?_
      refine URL.step ?_
      refine Sq (Rg [0, 1] ?_)
      refine RWP.litNext0  (dst := (some 11)) (ty := 0) (g := none) (by kernel_rfl) rfl (x := (.tmp 10)) (r := b46) (ki := 1) (km := 2) rfl hs113 rfl rfl (by kernel_rfl) (by kernel_rfl) ?_
      ·rintro w165 (hs166 : HS wb Fb w165 F8 ((sb bp0 (Ad r109.1 ar109_0_0 nr109_0_0) 100) :: (some b46, (.mapIter (some b39) 2 #[0, 1] 2)) :: (some b39, (.map #[⟨(.string ⟨(([61] : Sx)).toArray⟩), (vi 6), 0⟩, ⟨(.string ⟨(([60] : Sx)).toArray⟩), (vi 7), 1⟩] 2)) :: (sb b34 (Ae r27.2 ar27_1_2 nr27_1_2) 33) :: (sb b21 #[(vi 0), (vi 0), (.slice none ([] : List Expr).length 0)] 33) :: Lf))
       refine Vs 1 ?_
       refine Nss ?_
       refine C0 (rfl : false = false) ?_
       refine Ex ?_
       refine AC ?_
       refine AC ?_
       refine AV rfl ?_
       refine Ac ?_
       refine Sq (Rg [0, 1] ?_)
       refine Ld hs166.at3 ?_
       refine St4 (Ae r27.2 ar27_1_2 nr27_1_2) hs166 (fun w167 hs168 => ?_)
       refine Nt ?_
       refine Rt ?_
       obtain rfl := Aa h118
       exact ⟨rfl, (.agg (Ae r27.2 ar27_1_2 nr27_1_2)), Av (l := [.cell 2 33]) (by kernel_rfl) (vs := [(.agg (Ae r27.2 ar27_1_2 nr27_1_2))]) ⟨b21, 0, rfl, Ai (t := 33) (g := true) (s := 3) (by kernel_rfl) hs168.at4 rfl (by decide), trivial⟩, .inl ⟨_, F8, _, _, rfl, rfl, hs168.dr1.dr1.dr1.dr1, ((le31.trans le56).trans le114), ⟨ar109_0_0, nr109_0_0, ar27_1_2, nr27_1_2, rfl, rfl, hbr109_0_0, hsr109_0_0, hbr27_1_2, (R8 hsr27_1_2 (le56.trans le114))⟩⟩⟩
  ·rintro w169 (hs170 : HS wb Fb w169 F1 ((some b46, (.mapIter (some b39) 2 #[1] 2)) :: (some b39, (.map #[⟨(.string ⟨(([61] : Sx)).toArray⟩), (vi 6), 0⟩, ⟨(.string ⟨(([60] : Sx)).toArray⟩), (vi 7), 1⟩] 2)) :: (sb b34 (Ae r27.2 ar27_1_2 nr27_1_2) 33) :: (sb bp0 (Ad r27.1 ar27_0_0 nr27_0_0) 100) :: (sb b21 #[(vi 0), (vi 0), (.slice none ([] : List Expr).length 0)] 33) :: Lf))
   have h171 := JE h33
   refine Vs 1 ?_
   refine Nss ?_
   refine C1 (rfl : true = true) ?_
   refine Sc ?_
   refine Ac ?_
   refine Bk ?_
   refine Sq (Rg [0, 1, 2, 3, 4] ?_)
   refine V 13 0 (Et (x := (.tmp 10)) (en := ⟨(.string ⟨(([60] : Sx)).toArray⟩), (vi 7), 1⟩) rfl (hs170.ownAt (k := 0) rfl) (hs170.ownAt (k := 1) rfl) rfl rfl) ?_
   refine Vs 4 ?_
   refine Nss (Rg [0, 1, 2] ?_)
   refine Vs 2 ?_
   have hs172 := hs170.pk4.pk3.pk3.pk3.pk4
   obtain ⟨r173, hr174, h175⟩ := bind_some h171
   refine CB AF (AG N bp0 r27.1 ar27_0_0 nr27_0_0 hbr27_0_0 hsr27_0_0 (([60] : Sx)) hs172 _ hr174) ?_
   rintro _ F14 w176 _ hs177 le178 ⟨ar173_0_0, nr173_0_0, rfl, rfl, hbr173_0_0, hsr173_0_0⟩
   refine Nt ?_
   refine Cd h175 (fun hb180 h181 => ?_) (fun hb180 h182 => ?_)
   ·refine Sq ?_
    obtain ⟨j189, hj192, h193⟩ := bind_some h181
    refine RDP 6 7 [(some b46, (.mapIter (some b39) 2 #[1] 2)), (some b39, (.map #[⟨(.string ⟨(([61] : Sx)).toArray⟩), (vi 6), 0⟩, ⟨(.string ⟨(([60] : Sx)).toArray⟩), (vi 7), 1⟩] 2)), (sb b34 (Ae r27.2 ar27_1_2 nr27_1_2) 33)] [(sb b21 #[(vi 0), (vi 0), (.slice none ([] : List Expr).length 0)] 33)] hs177 (fun c d w => d = [] /\ ∃ (b : Aj) (Fp : Mem), j189 = .inl b /\ c = [{ v := (.iface 158 (.agg (AH b))), recovered := false }] /\ HS wb Fb w Fp Lf /\ R5 F14 Fp) (fun f w => ∃ (J194 : (Int × List Expr × List Aq × Int)), j189 = .inr J194 /\ ∃ (F15 : Mem) (aj189_1 : Sy) (nj189_1 : Nat) (ej189_1 : Option Nat × Obj) (aj189_2 : Sy) (nj189_2 : Nat), HS wb Fb w F15 (ej189_1 :: (sb bp0 #[(.slice aj189_2 J194.2.2.1.length nj189_2), (vi J194.2.2.2)] 100) :: (sb b21 #[(vi J194.1), (vi 0), (.slice aj189_1 J194.2.1.length nj189_1)] 33) :: Lf) /\ R5 F14 F15 /\ FI f [] [(2, (pt b21 0))] /\ Au Ao 33 F15 aj189_1 nj189_1 J194.2.1 ej189_1 /\ LC J194.2.2.1.length nj189_2 /\ SlA Ag F15 aj189_2 J194.2.2.1) (fun wd183 hw184 => ?_) ?_ ?_
    ·refine Dv [0] ?_
     refine Dl 1 (fun _ hq => (hq.1.2 2 _ _ rfl)) ?_
     refine Dv [2] ?_
     refine D1 3 ?_
     obtain ⟨r195, hr196, h197⟩ := bind_some hj192
     refine DCP BR (hsR233 (hG.mono (le31.trans le178)) bp0 r173.1 ar173_0_0 nr173_0_0 hbr173_0_0 hsr173_0_0 hw184 _ hr196) ?_ ?_
     ·rintro r198 _ F16 w200 _ rfl hs201 le202 ⟨ar198_0_0, nr198_0_0, ar198_1_2, nr198_1_2, rfl, rfl, hbr198_0_0, hsr198_0_0, hbr198_1_2, hsr198_1_2⟩
      have h204 := BU h197
      refine ⟨BF hs201 le202 (by simp) (fun _ => by simp), ?_⟩
      refine D1 4 ?_
      refine DBs 33 [(vi r27.2.Op), (vi r27.2.Value), (.slice ar27_1_2 r27.2.Kids.length nr27_1_2), (vi r198.2.Op), (vi r198.2.Value), (.slice ar198_1_2 r198.2.Kids.length nr198_1_2)] hs201 le202 (fun b205 w206 hs207 => ?_)
      have hr209 : Au Ao 33 F16 (some ⟨b205, 0, none⟩) 2 [r27.2, r198.2] (some b205, .cells ([(vi r27.2.Op), (vi r27.2.Value), (.slice ar27_1_2 r27.2.Kids.length nr27_1_2), (vi r198.2.Op), (vi r198.2.Value), (.slice ar198_1_2 r198.2.Kids.length nr198_1_2)] : List Value).toArray 33 (0, 0)) := Sr ⟨(A6 ⟨ar27_1_2, nr27_1_2, rfl, hbr27_1_2, (R8 hsr27_1_2 (le178.trans le202))⟩), ⟨(A6 ⟨ar198_1_2, nr198_1_2, rfl, hbr198_1_2, hsr198_1_2⟩), rfl⟩⟩ (by simp)
      refine Dv [5] ?_
      refine D1 6 ?_
      refine Qv #[(vi 7), (vi 0), (.slice (some ⟨b205, 0, none⟩) [r27.2, r198.2].length 2)] hs207 le202 (fun w210 hs211 => ?_)
      obtain rfl := Aa h204
      exact Sm (by kernel_rfl) ⟨_, rfl, F16, (some ⟨b205, 0, none⟩), 2, (some b205, .cells ([(vi r27.2.Op), (vi r27.2.Value), (.slice ar27_1_2 r27.2.Kids.length nr27_1_2), (vi r198.2.Op), (vi r198.2.Value), (.slice ar198_1_2 r198.2.Kids.length nr198_1_2)] : List Value).toArray 33 (0, 0)), ar198_0_0, nr198_0_0, hs211.dr2.dr2.dr2, le202, fI, hr209, hbr198_0_0, hsr198_0_0⟩
     ·rintro b212 F17 w213 rfl hs214 le215
      have h216 := Bn h197
      obtain rfl := Aa h216
      exact ⟨rfl, _, _, rfl, rfl, hs214.dr0.dr0.dr0.dr0, le215⟩
    ·rintro f w185 ⟨J194, rfl, F15, aj189_1, nj189_1, ej189_1, aj189_2, nj189_2, hs186, le187, ⟨_, rfl⟩, hrj189_1, hbj189_2, hsj189_2⟩
     have h218 := BU h193
     refine Ac ?_
     refine Rt ?_
     refine Ah ?_
     refine Af ?_
     refine Ah ?_
     refine Af ?_
     have hb222 := Sn hrj189_1
     obtain ⟨F18, hs219, le220, hs221⟩ := hs186.fr0 hrj189_1
     obtain rfl := Aa h218
     exact ⟨rfl, (.agg #[(vi J194.1), (vi 0), (.slice aj189_1 J194.2.1.length nj189_1)]), Av (l := [.cell 2 33]) (by kernel_rfl) (vs := [(.agg #[(vi J194.1), (vi 0), (.slice aj189_1 J194.2.1.length nj189_1)])]) ⟨b21, 0, rfl, Ai (t := 33) (g := true) (s := 3) (by kernel_rfl) hs219.at1 rfl (by decide), trivial⟩, .inl ⟨_, F18, _, _, rfl, rfl, hs219.dr1, (((le31.trans le178).trans le187).trans le220), ⟨aj189_2, nj189_2, aj189_1, nj189_1, rfl, rfl, hbj189_2, (R8 hsj189_2 le220), hb222, hs221⟩⟩⟩
    ·rintro c f w224 ⟨hd227, b223, F19, rfl, rfl, hs225, le226⟩
     have h228 := Bn h193
     refine Ak ?_
     refine AL ?_
     refine Ak ?_
     refine AL ?_
     refine Ak ?_
     obtain rfl := Aa h228
     exact ⟨hd227, .inr ⟨_, F19, rfl, rfl, hs225, ((le31.trans le178).trans le226)⟩⟩
   ·refine Sc ?_
    refine Ap ?_
    refine Ac ?_
    refine URL.step ?_
    refine Sq (Rg [0, 1] ?_)
    refine RWP.litNext1  (e := ⟨(.string ⟨(([61] : Sx)).toArray⟩), (vi 6), 0⟩) (dst := (some 11)) (ty := 0) (g := none) (by kernel_rfl) rfl (x := (.tmp 10)) (r := b46) (ki := 1) (km := 2) rfl hs177 rfl rfl (by kernel_rfl) (by kernel_rfl) ?_
    ·rintro w229 (hs230 : HS wb Fb w229 F14 ((sb bp0 (Ad r173.1 ar173_0_0 nr173_0_0) 100) :: (some b46, (.mapIter (some b39) 2 #[1, 0] 2)) :: (some b39, (.map #[⟨(.string ⟨(([61] : Sx)).toArray⟩), (vi 6), 0⟩, ⟨(.string ⟨(([60] : Sx)).toArray⟩), (vi 7), 1⟩] 2)) :: (sb b34 (Ae r27.2 ar27_1_2 nr27_1_2) 33) :: (sb b21 #[(vi 0), (vi 0), (.slice none ([] : List Expr).length 0)] 33) :: Lf))
     refine Vs 1 ?_
     refine Nss ?_
     refine C1 (rfl : true = true) ?_
     refine Sc ?_
     refine Ac ?_
     refine Bk ?_
     refine Sq (Rg [0, 1, 2, 3, 4] ?_)
     refine V 13 0 (Et (x := (.tmp 10)) (en := ⟨(.string ⟨(([61] : Sx)).toArray⟩), (vi 6), 0⟩) rfl (hs230.ownAt (k := 1) rfl) (hs230.ownAt (k := 2) rfl) rfl rfl) ?_
     refine Vs 4 ?_
     refine Nss (Rg [0, 1, 2] ?_)
     refine Vs 2 ?_
     obtain ⟨r231, hr232, h233⟩ := bind_some h182
     refine CB AF (AG N bp0 r173.1 ar173_0_0 nr173_0_0 hbr173_0_0 hsr173_0_0 (([61] : Sx)) hs230 _ hr232) ?_
     rintro _ F20 w234 _ hs235 le236 ⟨ar231_0_0, nr231_0_0, rfl, rfl, hbr231_0_0, hsr231_0_0⟩
     refine Nt ?_
     refine Cd h233 (fun hb238 h239 => ?_) (fun hb238 h240 => ?_)
     ·refine Sq ?_
      obtain ⟨j247, hj250, h251⟩ := bind_some h239
      refine RDP 6 7 [(some b46, (.mapIter (some b39) 2 #[1, 0] 2)), (some b39, (.map #[⟨(.string ⟨(([61] : Sx)).toArray⟩), (vi 6), 0⟩, ⟨(.string ⟨(([60] : Sx)).toArray⟩), (vi 7), 1⟩] 2)), (sb b34 (Ae r27.2 ar27_1_2 nr27_1_2) 33)] [(sb b21 #[(vi 0), (vi 0), (.slice none ([] : List Expr).length 0)] 33)] hs235 (fun c d w => d = [] /\ ∃ (b : Aj) (Fp : Mem), j247 = .inl b /\ c = [{ v := (.iface 158 (.agg (AH b))), recovered := false }] /\ HS wb Fb w Fp Lf /\ R5 F20 Fp) (fun f w => ∃ (J252 : (Int × List Expr × List Aq × Int)), j247 = .inr J252 /\ ∃ (F21 : Mem) (aj247_1 : Sy) (nj247_1 : Nat) (ej247_1 : Option Nat × Obj) (aj247_2 : Sy) (nj247_2 : Nat), HS wb Fb w F21 (ej247_1 :: (sb bp0 #[(.slice aj247_2 J252.2.2.1.length nj247_2), (vi J252.2.2.2)] 100) :: (sb b21 #[(vi J252.1), (vi 0), (.slice aj247_1 J252.2.1.length nj247_1)] 33) :: Lf) /\ R5 F20 F21 /\ FI f [] [(2, (pt b21 0))] /\ Au Ao 33 F21 aj247_1 nj247_1 J252.2.1 ej247_1 /\ LC J252.2.2.1.length nj247_2 /\ SlA Ag F21 aj247_2 J252.2.2.1) (fun wd241 hw242 => ?_) ?_ ?_
      ·refine Dv [0] ?_
       refine Dl 1 (fun _ hq => (hq.1.2 2 _ _ rfl)) ?_
       refine Dv [2] ?_
       refine D1 3 ?_
       obtain ⟨r253, hr254, h255⟩ := bind_some hj250
       refine DCP BR (hsR233 (hG.mono ((le31.trans le178).trans le236)) bp0 r231.1 ar231_0_0 nr231_0_0 hbr231_0_0 hsr231_0_0 hw242 _ hr254) ?_ ?_
       ·rintro r256 _ F22 w258 _ rfl hs259 le260 ⟨ar256_0_0, nr256_0_0, ar256_1_2, nr256_1_2, rfl, rfl, hbr256_0_0, hsr256_0_0, hbr256_1_2, hsr256_1_2⟩
        have h262 := BU h255
        refine ⟨BF hs259 le260 (by simp) (fun _ => by simp), ?_⟩
        refine D1 4 ?_
        refine DBs 33 [(vi r27.2.Op), (vi r27.2.Value), (.slice ar27_1_2 r27.2.Kids.length nr27_1_2), (vi r256.2.Op), (vi r256.2.Value), (.slice ar256_1_2 r256.2.Kids.length nr256_1_2)] hs259 le260 (fun b263 w264 hs265 => ?_)
        have hr267 : Au Ao 33 F22 (some ⟨b263, 0, none⟩) 2 [r27.2, r256.2] (some b263, .cells ([(vi r27.2.Op), (vi r27.2.Value), (.slice ar27_1_2 r27.2.Kids.length nr27_1_2), (vi r256.2.Op), (vi r256.2.Value), (.slice ar256_1_2 r256.2.Kids.length nr256_1_2)] : List Value).toArray 33 (0, 0)) := Sr ⟨(A6 ⟨ar27_1_2, nr27_1_2, rfl, hbr27_1_2, (R8 hsr27_1_2 ((le178.trans le236).trans le260))⟩), ⟨(A6 ⟨ar256_1_2, nr256_1_2, rfl, hbr256_1_2, hsr256_1_2⟩), rfl⟩⟩ (by simp)
        refine Dv [5] ?_
        refine D1 6 ?_
        refine Qv #[(vi 6), (vi 0), (.slice (some ⟨b263, 0, none⟩) [r27.2, r256.2].length 2)] hs265 le260 (fun w268 hs269 => ?_)
        obtain rfl := Aa h262
        exact Sm (by kernel_rfl) ⟨_, rfl, F22, (some ⟨b263, 0, none⟩), 2, (some b263, .cells ([(vi r27.2.Op), (vi r27.2.Value), (.slice ar27_1_2 r27.2.Kids.length nr27_1_2), (vi r256.2.Op), (vi r256.2.Value), (.slice ar256_1_2 r256.2.Kids.length nr256_1_2)] : List Value).toArray 33 (0, 0)), ar256_0_0, nr256_0_0, hs269.dr2.dr2.dr2, le260, fI, hr267, hbr256_0_0, hsr256_0_0⟩
       ·rintro b270 F23 w271 rfl hs272 le273
        have h274 := Bn h255
        obtain rfl := Aa h274
        exact ⟨rfl, _, _, rfl, rfl, hs272.dr0.dr0.dr0.dr0, le273⟩
      ·rintro f w243 ⟨J252, rfl, F21, aj247_1, nj247_1, ej247_1, aj247_2, nj247_2, hs244, le245, ⟨_, rfl⟩, hrj247_1, hbj247_2, hsj247_2⟩
       have h276 := BU h251
       refine Ac ?_
       refine Rt ?_
       refine Ah ?_
       refine Af ?_
       refine Ah ?_
       refine Af ?_
       have hb280 := Sn hrj247_1
       obtain ⟨F24, hs277, le278, hs279⟩ := hs244.fr0 hrj247_1
       obtain rfl := Aa h276
       exact ⟨rfl, (.agg #[(vi J252.1), (vi 0), (.slice aj247_1 J252.2.1.length nj247_1)]), Av (l := [.cell 2 33]) (by kernel_rfl) (vs := [(.agg #[(vi J252.1), (vi 0), (.slice aj247_1 J252.2.1.length nj247_1)])]) ⟨b21, 0, rfl, Ai (t := 33) (g := true) (s := 3) (by kernel_rfl) hs277.at1 rfl (by decide), trivial⟩, .inl ⟨_, F24, _, _, rfl, rfl, hs277.dr1, ((((le31.trans le178).trans le236).trans le245).trans le278), ⟨aj247_2, nj247_2, aj247_1, nj247_1, rfl, rfl, hbj247_2, (R8 hsj247_2 le278), hb280, hs279⟩⟩⟩
      ·rintro c f w282 ⟨hd285, b281, F25, rfl, rfl, hs283, le284⟩
       have h286 := Bn h251
       refine Ak ?_
       refine AL ?_
       refine Ak ?_
       refine AL ?_
       refine Ak ?_
       obtain rfl := Aa h286
       exact ⟨hd285, .inr ⟨_, F25, rfl, rfl, hs283, (((le31.trans le178).trans le236).trans le284)⟩⟩
     ·refine Sc ?_
      refine Ap ?_
      refine Ac ?_
      refine URL.step ?_
      refine Sq (Rg [0, 1] ?_)
      refine RWP.litNext0  (dst := (some 11)) (ty := 0) (g := none) (by kernel_rfl) rfl (x := (.tmp 10)) (r := b46) (ki := 1) (km := 2) rfl hs235 rfl rfl (by kernel_rfl) (by kernel_rfl) ?_
      ·rintro w287 (hs288 : HS wb Fb w287 F20 ((sb bp0 (Ad r231.1 ar231_0_0 nr231_0_0) 100) :: (some b46, (.mapIter (some b39) 2 #[1, 0] 2)) :: (some b39, (.map #[⟨(.string ⟨(([61] : Sx)).toArray⟩), (vi 6), 0⟩, ⟨(.string ⟨(([60] : Sx)).toArray⟩), (vi 7), 1⟩] 2)) :: (sb b34 (Ae r27.2 ar27_1_2 nr27_1_2) 33) :: (sb b21 #[(vi 0), (vi 0), (.slice none ([] : List Expr).length 0)] 33) :: Lf))
       refine Vs 1 ?_
       refine Nss ?_
       refine C0 (rfl : false = false) ?_
       refine Ex ?_
       refine AC ?_
       refine AC ?_
       refine AV rfl ?_
       refine Ac ?_
       refine Sq (Rg [0, 1] ?_)
       refine Ld hs288.at3 ?_
       refine St4 (Ae r27.2 ar27_1_2 nr27_1_2) hs288 (fun w289 hs290 => ?_)
       refine Nt ?_
       refine Rt ?_
       obtain rfl := Aa h240
       exact ⟨rfl, (.agg (Ae r27.2 ar27_1_2 nr27_1_2)), Av (l := [.cell 2 33]) (by kernel_rfl) (vs := [(.agg (Ae r27.2 ar27_1_2 nr27_1_2))]) ⟨b21, 0, rfl, Ai (t := 33) (g := true) (s := 3) (by kernel_rfl) hs290.at4 rfl (by decide), trivial⟩, .inl ⟨_, F20, _, _, rfl, rfl, hs290.dr1.dr1.dr1.dr1, ((le31.trans le178).trans le236), ⟨ar231_0_0, nr231_0_0, ar27_1_2, nr27_1_2, rfl, rfl, hbr231_0_0, hsr231_0_0, hbr27_1_2, (R8 hsr27_1_2 (le178.trans le236))⟩⟩⟩
 ·rintro b291 F26 w292 rfl hs293 le294
  have h295 := Bn h26
  refine Ak ?_
  obtain rfl := Aa h295
  exact Cw hs293.dr0 le294
def EG (N : Nat) (sR239 : Ab -> Option (Aj ⊕ (Ab × Expr))) (x0 : Ab) : Option (Aj ⊕ (Ab × Expr)) :=
 ((Bv N x0 (fun y => sR239 y) (EK (EK ([] : List (Sx × Int)) ([43] : Sx) 8) ([45] : Sx) 9)).bind fun r41 => sk r41 (fun b53 => some (.inl b53)) (fun r44 => some (.inr (r44.1, r44.2))))
theorem Hd (N : Nat) (sR239 : Ab -> Option (Aj ⊕ (Ab × Expr))) (hsR239 : Mh sR239) {wb w0 : World} {Fb F0 : Mem} {Lf : Own} (hG : CI F0) (bp0 : Nat) (x0 : Ab) (a0_0 : Sy) (n0_0 : Nat) (hb0_0 : LC x0.l_.length n0_0) (hs0_0 : SlA Ag F0 a0_0 x0.l_) (hs0 : HS wb Fb w0 F0 ((sb bp0 (Ad x0 a0_0 n0_0) 100) :: Lf)) (r : (Aj ⊕ (Ab × Expr))) (h : EG N sR239 x0 = some r) :
  Calls Tryz.prog 233 ([(pt bp0 0)] : List Value).toArray w0 (BH wb Fb F0 Lf r (fun b => (.iface 158 (.agg (AH b)))) fun a F' v L' => ∃ (aq0_0 : Sy) (nq0_0 : Nat) (aq1_2 : Sy) (nq1_2 : Nat), v = (.agg (Ae a.2 aq1_2 nq1_2)) /\ L' = (sb bp0 (Ad a.1 aq0_0 nq0_0) 100) :: Lf /\ LC a.1.l_.length nq0_0 /\ SlA Ag F' aq0_0 a.1.l_ /\ LC a.2.Kids.length nq1_2 /\ SlA Ao F' aq1_2 a.2.Kids) := by
 refine Go 9 Tryz.func233 ?_
 refine Sq (Rg [0] ?_)
 refine Al' 33 #[(vi 0), (vi 0), (.slice none ([] : List Expr).length 0)] hs0 (fun b21 w22 hs23 => ?_)
 refine Nss (Rg [0, 1, 2, 3, 4, 5, 6, 7, 8] ?_)
 refine Vs 3 ?_
 refine RWP.makeMap (t := 198) (K := Fk) (T := Bu) (dst := (some 6)) (ty := 198) (g := none) (by kernel_rfl) rfl hs23 (fun b25 e26 w27 (hs28 : HS wb Fb w27 F0 (e26 :: (sb b21 #[(vi 0), (vi 0), (.slice none ([] : List Expr).length 0)] 33) :: (sb bp0 (Ad x0 a0_0 n0_0) 100) :: Lf)) hr29 => ?_)
 refine RWP.mapIns kl9 (ty := 0) (g := none) (mt := 198) (k := 9) (vt := 3) (m := (.tmp 6)) (x := (.const (.string ⟨([43] : Sx).toArray⟩))) (y := (.const (vi 8))) (b := b25) (kx := ([43] : Sx)) (u := 8) (kv := (.string ⟨(([43] : Sx)).toArray⟩)) (v := (vi 8)) (K := Fk) (T := Bu) (by kernel_rfl) rfl rfl rfl rfl ⟨_, rfl, rfl⟩ ⟨_, rfl, rfl⟩ (by kernel_rfl) hs28 (q := 0) rfl hr29 (fun e30 w31 (hs32 : HS wb Fb w31 F0 (e30 :: (sb b21 #[(vi 0), (vi 0), (.slice none ([] : List Expr).length 0)] 33) :: (sb bp0 (Ad x0 a0_0 n0_0) 100) :: Lf)) hr33 => ?_)
 refine RWP.mapIns kl9 (ty := 0) (g := none) (mt := 198) (k := 9) (vt := 3) (m := (.tmp 6)) (x := (.const (.string ⟨([45] : Sx).toArray⟩))) (y := (.const (vi 9))) (b := b25) (kx := ([45] : Sx)) (u := 9) (kv := (.string ⟨(([45] : Sx)).toArray⟩)) (v := (vi 9)) (K := Fk) (T := Bu) (by kernel_rfl) rfl rfl rfl rfl ⟨_, rfl, rfl⟩ ⟨_, rfl, rfl⟩ (by kernel_rfl) hs32 (q := 0) rfl hr33 (fun e34 w35 (hs36 : HS wb Fb w35 F0 (e34 :: (sb b21 #[(vi 0), (vi 0), (.slice none ([] : List Expr).length 0)] 33) :: (sb bp0 (Ad x0 a0_0 n0_0) 100) :: Lf)) hr37 => ?_)
 refine Vs 1 ?_
 obtain ⟨F1, hs38, le39, hm40⟩ : ∃ Fq, HS wb Fb w35 Fq ((sb b21 #[(vi 0), (vi 0), (.slice none ([] : List Expr).length 0)] 33) :: (sb bp0 (Ad x0 a0_0 n0_0) 100) :: Lf) /\ R5 F0 Fq /\ MpA Fk Bu Fq (some b25) (EK (EK ([] : List (Sx × Int)) ([43] : Sx) 8) ([45] : Sx) 9) := HS.freezeMap hs36 (i := 0) rfl hr37
 obtain ⟨r41, hr42, h43⟩ := bind_some h
 refine CP Bz (BK N (hG.mono le39) bp0 x0 a0_0 n0_0 hb0_0 (R8 hs0_0 le39) 239 [(pt bp0 0)] ([] : List Value) (fun y => sR239 y) GB (fun {_ _ _ _ _} hGe y ay_0 ny_0 hby_0 hsy_0 hs r h => hsR239 hGe bp0 y ay_0 ny_0 hby_0 hsy_0 hs r h) ((EK (EK ([] : List (Sx × Int)) ([43] : Sx) 8) ([45] : Sx) 9)) (some b25) hm40 hs38.pk1 _ hr42) ?_ ?_
 ·rintro r44 _ F2 w46 _ rfl hs47 le48 ⟨ar44_0_0, nr44_0_0, ar44_1_2, nr44_1_2, rfl, rfl, hbr44_0_0, hsr44_0_0, hbr44_1_2, hsr44_1_2⟩
  have h50 := BU h43
  refine St1 (Ae r44.2 ar44_1_2 nr44_1_2) hs47 (fun w51 hs52 => ?_)
  refine Nt ?_
  refine Rt ?_
  obtain rfl := Aa h50
  exact ⟨rfl, (.agg (Ae r44.2 ar44_1_2 nr44_1_2)), Av (l := [.cell 2 33]) (by kernel_rfl) (vs := [(.agg (Ae r44.2 ar44_1_2 nr44_1_2))]) ⟨b21, 0, rfl, Ai (t := 33) (g := true) (s := 3) (by kernel_rfl) hs52.at1 rfl (by decide), trivial⟩, .inl ⟨_, F2, _, _, rfl, rfl, hs52.dr1, (le39.trans le48), ⟨ar44_0_0, nr44_0_0, ar44_1_2, nr44_1_2, rfl, rfl, hbr44_0_0, hsr44_0_0, hbr44_1_2, hsr44_1_2⟩⟩⟩
 ·rintro b53 F3 w54 rfl hs55 le56
  have h57 := Bn h43
  refine Ak ?_
  obtain rfl := Aa h57
  exact Cw hs55.dr0 (le39.trans le56)
def Ek (N : Nat) (sR243 : Ab -> Option (Aj ⊕ (Ab × Expr))) (x0 : Ab) : Option (Aj ⊕ (Ab × Expr)) :=
 ((Bv N x0 (fun y => sR243 y) (EK ([] : List (Sx × Int)) ([42] : Sx) 10)).bind fun r37 => sk r37 (fun b49 => some (.inl b49)) (fun r40 => some (.inr (r40.1, r40.2))))
theorem GQ (N : Nat) (sR243 : Ab -> Option (Aj ⊕ (Ab × Expr))) (hsR243 : Mg sR243) {wb w0 : World} {Fb F0 : Mem} {Lf : Own} (hG : CI F0) (bp0 : Nat) (x0 : Ab) (a0_0 : Sy) (n0_0 : Nat) (hb0_0 : LC x0.l_.length n0_0) (hs0_0 : SlA Ag F0 a0_0 x0.l_) (hs0 : HS wb Fb w0 F0 ((sb bp0 (Ad x0 a0_0 n0_0) 100) :: Lf)) (r : (Aj ⊕ (Ab × Expr))) (h : Ek N sR243 x0 = some r) :
  Calls Tryz.prog 239 ([(pt bp0 0)] : List Value).toArray w0 (BH wb Fb F0 Lf r (fun b => (.iface 158 (.agg (AH b)))) fun a F' v L' => ∃ (aq0_0 : Sy) (nq0_0 : Nat) (aq1_2 : Sy) (nq1_2 : Nat), v = (.agg (Ae a.2 aq1_2 nq1_2)) /\ L' = (sb bp0 (Ad a.1 aq0_0 nq0_0) 100) :: Lf /\ LC a.1.l_.length nq0_0 /\ SlA Ag F' aq0_0 a.1.l_ /\ LC a.2.Kids.length nq1_2 /\ SlA Ao F' aq1_2 a.2.Kids) := by
 refine Go 9 Tryz.func239 ?_
 refine Sq (Rg [0] ?_)
 refine Al' 33 #[(vi 0), (vi 0), (.slice none ([] : List Expr).length 0)] hs0 (fun b21 w22 hs23 => ?_)
 refine Nss (Rg [0, 1, 2, 3, 4, 5, 6, 7] ?_)
 refine Vs 3 ?_
 refine RWP.makeMap (t := 198) (K := Fk) (T := Bu) (dst := (some 6)) (ty := 198) (g := none) (by kernel_rfl) rfl hs23 (fun b25 e26 w27 (hs28 : HS wb Fb w27 F0 (e26 :: (sb b21 #[(vi 0), (vi 0), (.slice none ([] : List Expr).length 0)] 33) :: (sb bp0 (Ad x0 a0_0 n0_0) 100) :: Lf)) hr29 => ?_)
 refine RWP.mapIns kl9 (ty := 0) (g := none) (mt := 198) (k := 9) (vt := 3) (m := (.tmp 6)) (x := (.const (.string ⟨([42] : Sx).toArray⟩))) (y := (.const (vi 10))) (b := b25) (kx := ([42] : Sx)) (u := 10) (kv := (.string ⟨(([42] : Sx)).toArray⟩)) (v := (vi 10)) (K := Fk) (T := Bu) (by kernel_rfl) rfl rfl rfl rfl ⟨_, rfl, rfl⟩ ⟨_, rfl, rfl⟩ (by kernel_rfl) hs28 (q := 0) rfl hr29 (fun e30 w31 (hs32 : HS wb Fb w31 F0 (e30 :: (sb b21 #[(vi 0), (vi 0), (.slice none ([] : List Expr).length 0)] 33) :: (sb bp0 (Ad x0 a0_0 n0_0) 100) :: Lf)) hr33 => ?_)
 refine Vs 1 ?_
 obtain ⟨F1, hs34, le35, hm36⟩ : ∃ Fq, HS wb Fb w31 Fq ((sb b21 #[(vi 0), (vi 0), (.slice none ([] : List Expr).length 0)] 33) :: (sb bp0 (Ad x0 a0_0 n0_0) 100) :: Lf) /\ R5 F0 Fq /\ MpA Fk Bu Fq (some b25) (EK ([] : List (Sx × Int)) ([42] : Sx) 10) := HS.freezeMap hs32 (i := 0) rfl hr33
 obtain ⟨r37, hr38, h39⟩ := bind_some h
 refine CP Bz (BK N (hG.mono le35) bp0 x0 a0_0 n0_0 hb0_0 (R8 hs0_0 le35) 243 [(pt bp0 0)] ([] : List Value) (fun y => sR243 y) GE (fun {_ _ _ _ _} hGe y ay_0 ny_0 hby_0 hsy_0 hs r h => hsR243 hGe bp0 y ay_0 ny_0 hby_0 hsy_0 hs r h) ((EK ([] : List (Sx × Int)) ([42] : Sx) 10)) (some b25) hm36 hs34.pk1 _ hr38) ?_ ?_
 ·rintro r40 _ F2 w42 _ rfl hs43 le44 ⟨ar40_0_0, nr40_0_0, ar40_1_2, nr40_1_2, rfl, rfl, hbr40_0_0, hsr40_0_0, hbr40_1_2, hsr40_1_2⟩
  have h46 := BU h39
  refine St1 (Ae r40.2 ar40_1_2 nr40_1_2) hs43 (fun w47 hs48 => ?_)
  refine Nt ?_
  refine Rt ?_
  obtain rfl := Aa h46
  exact ⟨rfl, (.agg (Ae r40.2 ar40_1_2 nr40_1_2)), Av (l := [.cell 2 33]) (by kernel_rfl) (vs := [(.agg (Ae r40.2 ar40_1_2 nr40_1_2))]) ⟨b21, 0, rfl, Ai (t := 33) (g := true) (s := 3) (by kernel_rfl) hs48.at1 rfl (by decide), trivial⟩, .inl ⟨_, F2, _, _, rfl, rfl, hs48.dr1, (le35.trans le44), ⟨ar40_0_0, nr40_0_0, ar40_1_2, nr40_1_2, rfl, rfl, hbr40_0_0, hsr40_0_0, hbr40_1_2, hsr40_1_2⟩⟩⟩
 ·rintro b49 F3 w50 rfl hs51 le52
  have h53 := Bn h39
  refine Ak ?_
  obtain rfl := Aa h53
  exact Cw hs51.dr0 (le35.trans le52)
def AQ (N : Nat) (x0 : Ab) (x1 : Int) (x2 : Int) : Option (Aj ⊕ Unit) :=
 some (.inl ({ e_ := x1, at_ := x2 } : Aj))
theorem AK : An Tryz.prog 87 := fun _ _ => by kernel_rfl
theorem AM (N : Nat) {wb w0 : World} {Fb F0 : Mem} {Lf : Own} (bp0 : Nat) (x0 : Ab) (a0_0 : Sy) (n0_0 : Nat) (hb0_0 : LC x0.l_.length n0_0) (hs0_0 : SlA Ag F0 a0_0 x0.l_) (x1 : Int) (x2 : Int) (hs0 : HS wb Fb w0 F0 ((sb bp0 (Ad x0 a0_0 n0_0) 100) :: Lf)) (r : (Aj ⊕ Unit)) (h : AQ N x0 x1 x2 = some r) :
  Calls Tryz.prog 87 ([(pt bp0 0), (vi x1), (vi x2)] : List Value).toArray w0 (BH wb Fb F0 Lf r (fun b => (.iface 158 (.agg (AH b)))) fun a F' v L' => v = (.tuple #[]) /\ L' = (sb bp0 (Ad x0 a0_0 n0_0) 100) :: Lf) := by
 refine Go 10 Tryz.func87 ?_
 refine Rg [0, 1, 2, 3, 4] ?_
 refine Vs 3 ?_
 refine V 9 20 (FF (t := 158) (x := (.tmp 8)) (v := (.agg #[(vi x1), (vi x2)])) rfl (by kernel_rfl)) ?_
 refine RWP.panics (dst := none) (ty := 0) (g := none) (by kernel_rfl) rfl (Oy (x := (.tmp 9)) (t := 158) (v := (.agg #[(vi x1), (vi x2)])) rfl) rfl ?_
 obtain rfl := Aa h
 exact Cw hs0.dr0 (R6 _)
def A4 (N : Nat) (x0 : Ab) (x1 : Sx) : Option (Aj ⊕ Ab) :=
 ((Ar N x0 x1).bind fun r21 => (bif (!r21.2) then ((idx r21.1.l_ 0).bind fun x31 => ((AQ N r21.1 60 x31.at_).bind fun r45 => sk r45 (fun b50 => some (.inl b50)) (fun r48 => none))) else some (.inr r21.1)))
theorem A1 : An Tryz.prog 135 := fun _ _ => by kernel_rfl
theorem A5 (N : Nat) {wb w0 : World} {Fb F0 : Mem} {Lf : Own} (bp0 : Nat) (x0 : Ab) (a0_0 : Sy) (n0_0 : Nat) (hb0_0 : LC x0.l_.length n0_0) (hs0_0 : SlA Ag F0 a0_0 x0.l_) (x1 : Sx) (hs0 : HS wb Fb w0 F0 ((sb bp0 (Ad x0 a0_0 n0_0) 100) :: Lf)) (r : (Aj ⊕ Ab)) (h : A4 N x0 x1 = some r) :
  Calls Tryz.prog 135 ([(pt bp0 0), (.string ⟨(x1).toArray⟩)] : List Value).toArray w0 (BH wb Fb F0 Lf r (fun b => (.iface 158 (.agg (AH b)))) fun a F' v L' => ∃ (aq0_0 : Sy) (nq0_0 : Nat), v = (.tuple #[]) /\ L' = (sb bp0 (Ad a aq0_0 nq0_0) 100) :: Lf /\ LC a.l_.length nq0_0 /\ SlA Ag F' aq0_0 a.l_) := by
 refine Go 17 Tryz.func135 ?_
 refine Sq (Rg [0, 1, 2, 3] ?_)
 refine Vs 2 ?_
 obtain ⟨r21, hr22, h23⟩ := bind_some h
 refine CB AF (AG N bp0 x0 a0_0 n0_0 hb0_0 hs0_0 x1 hs0 _ hr22) ?_
 rintro _ F1 w24 _ hs25 le26 ⟨ar21_0_0, nr21_0_0, rfl, rfl, hbr21_0_0, hsr21_0_0⟩
 refine Vs 1 ?_
 refine Nt ?_
 refine Cd h23 (fun hb28 h29 => ?_) (fun hb28 h30 => ?_)
 ·refine Rg [0, 1, 2, 3, 4, 5, 6, 7, 8] ?_
  refine Vs 4 ?_
  refine Ld hs25.at0 ?_
  obtain ⟨x31, hx32, h34⟩ := bind_some h29
  obtain ⟨hi33, hx32'⟩ := Ay hx32
  obtain ⟨b35, o36, C37, E38, fz39, rfl, hF41, hE42⟩ := Sh hsr21_0_0 hx32'
  have hc44 := hE42 _ _ hx32'
  refine Ix hi33 ?_
  refine Vs 1 ?_
  refine Lx 1 (hs25.pers _ _ hF41) hc44 ?_
  obtain ⟨r45, hr46, h47⟩ := bind_some h34
  refine CP AK (AM N bp0 r21.1 (some ⟨b35, o36, none⟩) nr21_0_0 hbr21_0_0 hsr21_0_0 60 x31.at_ hs25 _ hr46) ?_ ?_
  ·rintro _ _ _ _ _ rfl _ _ _; cases hr46
  ·rintro b50 F3 w51 rfl hs52 le53
   have h54 := Bn h47
   obtain rfl := Aa h54
   exact Cw hs52 (le26.trans le53)
 ·refine Sc ?_
  obtain rfl := Aa h30
  exact ReP [] hs25 le26 ⟨ar21_0_0, nr21_0_0, rfl, rfl, hbr21_0_0, hsr21_0_0⟩
def Cx (N : Nat) (x0 : (List Sx)) (x1 : Sx) : Int -> Option (BX Int Int) := fun s24 =>
 (bif (decide (s24 < (x0.length : Int))) then ((idx x0 s24).bind fun x47 => (bif (x1 == x47) then some (.ret s24) else some (.next (W64 (s24 + 1))))) else some (.done s24))
def CJ (N : Nat) (x0 : (List Sx)) (x1 : Sx) : Option Int :=
 ((Br (Cx N x0 x1) N 0).bind fun o => o.k (fun r => some r) (fun s33 => some (-1)))
theorem D8 : An Tryz.prog 247 := fun _ _ => by kernel_rfl
theorem Ef (N : Nat) (w0 : World) (F0 : Mem) (hF : Sz w0 F0) (x0 : (List Sx)) (a0_0 : Sy) (n0_0 : Nat) (hb0_0 : LC x0.length n0_0) (hs0_0 : SlA Fk F0 a0_0 x0) (x1 : Sx) (r : Int) (h : CJ N x0 x1 = some r) :
  Calls Tryz.prog 247 ([(.slice a0_0 x0.length n0_0), (.string ⟨(x1).toArray⟩)] : List Value).toArray w0 (AU w0 F0 fun F' v => v = (vi r)) := by
 have hs0 := R7 hF
 refine Go 19 Tryz.func247 ?_
 refine Sq (Rg [0] ?_)
 refine Vs 1 ?_
 refine Nss ?_
 refine Sq (Rg [0, 1, 2] ?_)
 refine Vs 3 ?_
 refine Nt ?_
 obtain ⟨o21, ho22, h23⟩ := bind_some h
 refine Se (fun f w => ∃ (s33 : Int) (F2 : Mem), o21 = .done s33 /\ HS w0 F0 w F2 [] /\ R5 F0 F2 /\ FI f [] []) ?_ ?_
 ·refine Bk ?_
  refine R4 (by kernel_rfl) (fun m f w => ∃ (s24 : Int) (F1 : Mem), Br (Cx N x0 x1) m s24 = some o21 /\ HS w0 F0 w F1 [] /\ R5 F0 F1 /\ FI f [] [(0, (.slice a0_0 x0.length n0_0)), (1, (.string ⟨(x1).toArray⟩)), (7, (vi (x0.length : Int))), (8, (vi s24))]) N ⟨0, F0, ho22, hs0, (R6 _), fI⟩ ?_
  rintro m38 f w25 ⟨s24, F1, hit39, hs26, le27, ⟨_, rfl⟩⟩
  obtain ⟨m40, fl41, rfl, hb42, hnx43⟩ := A7 hit39
  refine Sq (Rg [0] ?_)
  refine Vs 1 ?_
  refine Nss ?_
  refine Cd hb42 (fun hb44 h45 => ?_) (fun hb44 h46 => ?_)
  ·refine Sc ?_
   refine Ac ?_
   refine Sq ?_
   refine Bk ?_
   refine Sq (Rg [0, 1] ?_)
   refine Vs 2 ?_
   refine Nss (Rg [0, 1, 2, 3, 4, 5] ?_)
   refine Vs 3 ?_
   obtain ⟨x47, hx48, h50⟩ := bind_some h45
   obtain ⟨hi49, hx48'⟩ := Ay hx48
   obtain ⟨b51, o52, C53, E54, fz55, rfl, hF57, hE58⟩ := Sh (R8 hs0_0 le27) hx48'
   have hc60 := hE58 _ _ hx48'
   refine Ix hi49 ?_
   refine Lx 0 (hs26.pers _ _ hF57) hc60 ?_
   refine Vs 1 ?_
   refine Nt ?_
   refine Cd h50 (fun hb61 h62 => ?_) (fun hb61 h63 => ?_)
   ·refine Sq (Rg [0, 1] ?_)
    refine Vs 2 ?_
    refine Nt ?_
    refine Rt ?_
    refine Ah ?_
    refine Af ?_
    refine Af ?_
    refine Ah ?_
    have hret := Cf h62 hnx43
    subst hret
    refine .inr ?_
    refine Af ?_
    obtain rfl := Aa h23
    exact Re [(vi s24)] hs26 rfl
   ·refine Sc ?_
    refine Ap ?_
    refine Ac ?_
    refine Rg [0, 1] ?_
    refine Vs 2 ?_
    refine RY ?_
    have hn64 := A0 h63 hnx43
    exact ⟨m40, Nat.lt_succ_self _, (W64 (s24 + 1)), F1, hn64, hs26, le27, fI⟩
  ·refine Ex ?_
   refine AC ?_
   refine AC ?_
   refine AV rfl ?_
   have ho65 := Bd h46 hnx43
   exact .inl ⟨rfl, s24, F1, ho65, hs26, le27, fI⟩
 ·rintro f w34 ⟨s33, F2, rfl, hs35, le36, ⟨_, rfl⟩⟩
  have h66 := Cu h23
  refine Ac ?_
  refine Sq (Rg [0] ?_)
  refine Vs 1 ?_
  refine Nt ?_
  refine Rt ?_
  obtain rfl := Aa h66
  exact Re [(vi (-1))] hs35 rfl
end Go.Proofs.YtaihlcdkcampbaaGreatDoor
