/- Lemmas of the claim RulesPrintsUpto, printed by a program of the claimant and by hand. No statement of the seat is proved here. -/
import Derived.Test.YtaihlcdkcampbaaGreatDoorE10x2
set_option linter.unusedVariables false
set_option linter.unusedSimpArgs false
set_option linter.unusedSectionVars false
set_option maxHeartbeats 4000000
set_option maxRecDepth 100000
namespace Go.Proofs.YtaihlcdkcampbaaGreatDoor
def AF (N : Nat) (x0 : (List (List Clause))) : (Int × Int) -> Option (Bi (List Clause) (Int × Int)) := fun s24 =>
 (bif (decide (s24.2 < (x0.length : Int))) then ((idx x0 s24.2).bind fun x50 => (bif (decide ((W64 (s24.1 + (x50.length : Int))) < 0)) then none else some (.next ((W64 (s24.1 + (x50.length : Int))), (W64 (s24.2 + 1)))))) else some (.done (s24.1, s24.2)))
def AN (N : Nat) (x0 : (List (List Clause))) (s34 : (Int × Int)) (r70 : (List Clause)) : (List Clause × Int) -> Option (Bi (List Clause) (List Clause × Int)) := fun s87 =>
 (bif (decide (s87.2 < (x0.length : Int))) then ((idx x0 s87.2).bind fun x111 => ((Gh s87.1 x111).bind fun r125 => some (.next (r125, (W64 (s87.2 + 1)))))) else some (.done (s87.1, s87.2)))
def A2 (N : Nat) (x0 : (List (List Clause))) : Option (List Clause) :=
 ((A0 (AF N x0) N (0, 0)).bind fun o => o.k (fun r => some r) (fun s34 => ((A7 N s34.1).bind fun r70 => ((A0 (AN N x0 s34 r70) N (r70, 0)).bind fun o => o.k (fun r => some r) (fun s96 => some s96.1)))))
theorem CO : Al Tryz.prog 122 := fun _ _ => by kernel_rfl
theorem CT (N : Nat) (w0 : World) (F0 : Mem) (hF : SH w0 F0) (x0 : (List (List Clause))) (a0_0 : SG) (n0_0 : Nat) (hb0_0 : LC x0.length n0_0) (hs0_0 : SlA (tSl As) F0 a0_0 x0) (r : (List Clause)) (h : A2 N x0 = some r) :
  Calls Tryz.prog 122 ([(.slice a0_0 x0.length n0_0)] : List Value).toArray w0 (AJ w0 F0 fun F' v => ∃ (aq0_0 : SG) (nq0_0 : Nat), v = (.slice aq0_0 r.length nq0_0) /\ LC r.length nq0_0 /\ SlA As F' aq0_0 r) := by
 have hs0 := Sj hF
 refine Go 36 Tryz.func122 ?_
 refine Sq (Rg [0] ?_)
 refine Vs 1 ?_
 refine Nss (Rg [0] ?_)
 refine Vs 1 ?_
 refine Nss ?_
 refine Sq (Rg [0, 1, 2] ?_)
 refine Vs 3 ?_
 refine Nt ?_
 obtain ⟨o21, ho22, h23⟩ := bind_some h
 refine So (fun f w => ∃ (s34 : (Int × Int)) (F2 : Mem), o21 = .done s34 /\ HS w0 F0 w F2 [] /\ Sh F0 F2 /\ FI f [] [(0, (.slice a0_0 x0.length n0_0)), (3, (vi s34.1))]) ?_ ?_
 ·refine Bk ?_
  refine Sg (by kernel_rfl) (fun m f w => ∃ (s24 : (Int × Int)) (F1 : Mem), A0 (AF N x0) m s24 = some o21 /\ HS w0 F0 w F1 [] /\ Sh F0 F1 /\ FI f [] [(0, (.slice a0_0 x0.length n0_0)), (3, (vi s24.1)), (9, (.slice a0_0 x0.length n0_0)), (10, (vi (x0.length : Int))), (11, (vi s24.2))]) N ⟨(0, 0), F0, ho22, hs0, (Si _), fI⟩ ?_
  rintro m41 f w25 ⟨s24, F1, hit42, hs26, le27, ⟨_, rfl⟩⟩
  obtain ⟨m43, fl44, rfl, hb45, hnx46⟩ := AQ hit42
  refine Sq (Rg [0] ?_)
  refine Vs 1 ?_
  refine Nss ?_
  refine Cd hb45 (fun hb47 h48 => ?_) (fun hb47 h49 => ?_)
  ·refine Sc ?_
   refine Ac ?_
   refine Sq ?_
   refine Bk ?_
   refine Sq (Rg [0, 1, 2] ?_)
   obtain ⟨x50, hx51, h53⟩ := bind_some h48
   obtain ⟨hi52, hx51'⟩ := Ap hx51
   obtain ⟨b54, o55, C56, E57, fz58, rfl, hF60, hE61⟩ := Su (Sk hs0_0 le27) hx51'
   obtain ⟨ae62_0, ne62_0, hc63, hbe62_0, hse62_0⟩ := hE61 _ _ hx51'
   refine Ix hi52 ?_
   refine Lx 0 (hs26.pers _ _ hF60) hc63 ?_
   refine Vs 1 ?_
   refine Nss (Rg [0, 1, 2, 3, 4] ?_)
   refine Vs 5 ?_
   refine Nss (Rg [0, 1] ?_)
   refine Vs 2 ?_
   refine Nt ?_
   refine Cd h53 (fun hb64 h65 => ?_) (fun hb64 h66 => ?_)
   ·refine Rg [0, 1] ?_
    refine V 21 20 (FX (t := 9) (x := (.const (.string ⟨([108, 101, 110, 32, 111, 117, 116, 32, 111, 102, 32, 114, 97, 110, 103, 101] : SF).toArray⟩))) (v := (.string ⟨(([108, 101, 110, 32, 111, 117, 116, 32, 111, 102, 32, 114, 97, 110, 103, 101] : SF)).toArray⟩)) rfl (by kernel_rfl)) ?_
    cases h65
   ·refine Sc ?_
    refine Aq ?_
    refine Ac ?_
    refine Rg [0, 1] ?_
    refine Vs 2 ?_
    refine Sd ?_
    have hn67 := AM h66 hnx46
    exact ⟨m43, Nat.lt_succ_self _, ((W64 (s24.1 + (x50.length : Int))), (W64 (s24.2 + 1))), F1, hn67, hs26, le27, fI⟩
  ·refine Ex ?_
   refine Av ?_
   refine Av ?_
   refine AE rfl ?_
   have ho68 := AX h49 hnx46
   exact .inl ⟨rfl, (s24.1, s24.2), F1, ho68, hs26, le27, fI⟩
 ·rintro f w35 ⟨s34, F2, rfl, hs36, le37, ⟨_, rfl⟩⟩
  have h69 := Bo h23
  refine Ac ?_
  refine Sq (Rg [0, 1, 2] ?_)
  refine Vs 1 ?_
  obtain ⟨r70, hr71, h72⟩ := bind_some h69
  refine RWP.callO (dst := (some 24)) (ty := 23) (g := none) (by kernel_rfl) rfl (f0 := (.func 173)) (aos := #[(.const (.slice none 0 0)), (.tmp 23)]) (ats := #[23, 3]) (fid := 173) (first := #[]) (cap := #[]) (args := [(.slice none ([] : List Clause).length 0), (vi s34.1)]) rfl CU rfl hs36 (CZ N w35 F2 hs36.pers s34.1 _ hr71) ?_
  rintro _ F3 w74 _ hs75 le76 ⟨a78, n79, e80, rfl, rfl, hr81⟩
  have hs83 : HS w0 F0 w74 F3 [e80] := hs75
  refine Vs 1 ?_
  refine Nss ?_
  refine Sq (Rg [0, 1, 2] ?_)
  refine Vs 3 ?_
  refine Nt ?_
  obtain ⟨o84, ho85, h86⟩ := bind_some h72
  refine So (fun f w => ∃ (s96 : (List Clause × Int)) (F5 : Mem) (as96_0 : SG) (ns96_0 : Nat) (es96_0 : Option Nat × Obj), o84 = .done s96 /\ HS w0 F0 w F5 [es96_0] /\ Sh F3 F5 /\ FI f [] [(6, (.slice as96_0 s96.1.length ns96_0))] /\ Aw As 56 F5 as96_0 ns96_0 s96.1 es96_0) ?_ ?_
  ·refine Bk ?_
   refine Sg (by kernel_rfl) (fun m f w => ∃ (s87 : (List Clause × Int)) (F4 : Mem) (as87_0 : SG) (ns87_0 : Nat) (es87_0 : Option Nat × Obj), A0 (AN N x0 s34 r70) m s87 = some o84 /\ HS w0 F0 w F4 [es87_0] /\ Sh F3 F4 /\ FI f [] [(6, (.slice as87_0 s87.1.length ns87_0)), (25, (.slice a0_0 x0.length n0_0)), (26, (vi (x0.length : Int))), (27, (vi s87.2))] /\ Aw As 56 F4 as87_0 ns87_0 s87.1 es87_0) N ⟨(r70, 0), F3, a78, n79, e80, ho85, hs83, (Si _), fI, hr81⟩ ?_
   rintro m102 f w88 ⟨s87, F4, as87_0, ns87_0, es87_0, hit103, hs89, le90, ⟨_, rfl⟩, hrs87_0⟩
   obtain ⟨m104, fl105, rfl, hb106, hnx107⟩ := AQ hit103
   refine Sq (Rg [0] ?_)
   refine Vs 1 ?_
   refine Nss ?_
   refine Cd hb106 (fun hb108 h109 => ?_) (fun hb108 h110 => ?_)
   ·refine Sc ?_
    refine Ac ?_
    refine Sq ?_
    refine Bk ?_
    refine Sq (Rg [0, 1, 2] ?_)
    obtain ⟨x111, hx112, h114⟩ := bind_some h109
    obtain ⟨hi113, hx112'⟩ := Ap hx112
    obtain ⟨b115, o116, C117, E118, fz119, rfl, hF121, hE122⟩ := Su (Sk hs0_0 ((le37.trans le76).trans le90)) hx112'
    obtain ⟨ae123_0, ne123_0, hc124, hbe123_0, hse123_0⟩ := hE122 _ _ hx112'
    refine Ix hi113 ?_
    refine Lx 0 (hs89.pers _ _ hF121) hc124 ?_
    refine Vs 1 ?_
    refine Nt ?_
    refine Rg [0, 1, 2, 3] ?_
    refine Vs 2 ?_
    obtain ⟨r125, hap126, h127⟩ := bind_some h114
    refine Ap0 Oy hs89 hrs87_0 (SlA.rd hs89 hse123_0) hap126 (fun a128 n129 e130 w131 hs132 hr133 => ?_)
    refine Vs 1 ?_
    refine Sd ?_
    refine Aq ?_
    refine Ac ?_
    refine Rg [0, 1] ?_
    refine Vs 2 ?_
    refine Sd ?_
    have hn134 := AM h127 hnx107
    exact ⟨m104, Nat.lt_succ_self _, (r125, (W64 (s87.2 + 1))), F4, a128, n129, e130, hn134, hs132, le90, fI, hr133⟩
   ·refine Ex ?_
    refine Av ?_
    refine Av ?_
    refine AE rfl ?_
    have ho135 := AX h110 hnx107
    exact .inl ⟨rfl, (s87.1, s87.2), F4, as87_0, ns87_0, es87_0, ho135, hs89, le90, fI, hrs87_0⟩
  ·rintro f w97 ⟨s96, F5, as96_0, ns96_0, es96_0, rfl, hs98, le99, ⟨_, rfl⟩, hrs96_0⟩
   have h136 := Bo h86
   refine Ac ?_
   refine Sq (Rg [0, 1] ?_)
   refine Vs 2 ?_
   refine Nt ?_
   refine Rt ?_
   have hb140 := SB hrs96_0
   obtain ⟨F6, hs137, le138, hs139⟩ := hs98.fr0 hrs96_0
   obtain rfl := Aa h136
   exact Re [(.slice as96_0 s96.1.length ns96_0)] hs137 ⟨as96_0, ns96_0, rfl, hb140, hs139⟩
def CK (N : Nat) (x0 : Be) (r36 : (List Clause)) : (Int × Int) -> Option (Bi (Int × Int) (Int × Int)) := fun s47 =>
 (bif (decide (s47.2 < (r36.length : Int))) then ((idx r36 s47.2).bind fun x73 => ((CC N x73).bind fun r92 => (bif (!r92) then some (.ret (62, (W64 (s47.1 + 1)))) else some (.next ((W64 (s47.1 + 1)), (W64 (s47.2 + 1))))))) else some (.done (s47.1, s47.2)))
def CJ (N : Nat) (x0 : Be) (r36 : (List Clause)) (s57 : (Int × Int)) : (Int × Int) -> Option (Bi (Int × Int) (Int × Int)) := fun s109 =>
 (bif (decide (s109.2 < (x0.Repeats.length : Int))) then ((idx x0.Repeats s109.2).bind fun x132 => ((FJ N x132 1).bind fun r151 => (bif (!r151) then some (.ret (62, (W64 (s109.1 + 1)))) else some (.next ((W64 (s109.1 + 1)), (W64 (s109.2 + 1))))))) else some (.done (s109.1, s109.2)))
def Fa (N : Nat) (x0 : Be) : Option (Int × Int) :=
 (bif (decide ((max (max (max (x0.Points.length : Int) (x0.Multipliers.length : Int)) (x0.Penalties.length : Int)) (x0.Repeats.length : Int)) > 64)) then some (2, 0) else ((A2 N ([x0.Points, x0.Multipliers, x0.Penalties])).bind fun r36 => ((A0 (CK N x0 r36) N (0, 0)).bind fun o => o.k (fun r => some r) (fun s57 => ((A0 (CJ N x0 r36 s57) N (s57.1, 0)).bind fun o => o.k (fun r => some r) (fun s118 => some (0, 0)))))))
theorem KW : Al Tryz.prog 70 := fun _ _ => by kernel_rfl
theorem LE (N : Nat) (w0 : World) (F0 : Mem) (hF : SH w0 F0) (x0 : Be) (a0_0 : SG) (n0_0 : Nat) (hb0_0 : LC x0.Points.length n0_0) (hs0_0 : SlA As F0 a0_0 x0.Points) (a0_1 : SG) (n0_1 : Nat) (hb0_1 : LC x0.Multipliers.length n0_1) (hs0_1 : SlA As F0 a0_1 x0.Multipliers) (a0_2 : SG) (n0_2 : Nat) (hb0_2 : LC x0.Penalties.length n0_2) (hs0_2 : SlA As F0 a0_2 x0.Penalties) (a0_3 : SG) (n0_3 : Nat) (hb0_3 : LC x0.Repeats.length n0_3) (hs0_3 : SlA Ao F0 a0_3 x0.Repeats) (r : (Int × Int)) (h : Fa N x0 = some r) :
  Calls Tryz.prog 70 ([(.agg (AU x0 a0_0 n0_0 a0_1 n0_1 a0_2 n0_2 a0_3 n0_3))] : List Value).toArray w0 (AJ w0 F0 fun F' v => v = (.tuple #[(vi r.1), (vi r.2)])) := by
 have hs0 := Sj hF
 refine Go 57 Tryz.func70 ?_
 refine Sq (Rg [0, 1, 2] ?_)
 refine Bx' 26 (AU x0 a0_0 n0_0 a0_1 n0_1 a0_2 n0_2 a0_3 n0_3) hs0 (fun b21 w22 hs23 => ?_)
 refine Vs 2 ?_
 refine Nss ?_
 refine Sq (Rg [0, 1, 2, 3, 4, 5, 6, 7, 8, 9, 10, 11, 12, 13] ?_)
 refine Vs 1 ?_
 refine Ld hs23.at0 ?_
 refine Vs 2 ?_
 refine Ld hs23.at0 ?_
 refine Vs 2 ?_
 refine Ld hs23.at0 ?_
 refine Vs 2 ?_
 refine Ld hs23.at0 ?_
 refine Vs 1 ?_
 refine V 21 3 (Po (x := (.tmp 11)) (y := (.tmp 14)) (z := (.tmp 17)) (u := (.tmp 20)) (ats := #[3, 3, 3, 3]) (a := (x0.Points.length : Int)) (b := (x0.Multipliers.length : Int)) (c := (x0.Penalties.length : Int)) (d := (x0.Repeats.length : Int)) rfl rfl rfl rfl) ?_
 refine Vs 1 ?_
 refine Nt ?_
 refine Cd h (fun hb24 h25 => ?_) (fun hb24 h26 => ?_)
 ·refine Sq (Rg [0, 1] ?_)
  refine Vs 2 ?_
  refine Nt ?_
  refine Rt ?_
  refine Ae ?_
  obtain rfl := Aa h25
  exact Re [(vi 2), (vi 0)] hs23 rfl
 ·refine Sc ?_
  refine Ac ?_
  refine Sq (Rg [0] ?_)
  refine Vs 1 ?_
  refine Nss ?_
  refine Sq (Rg [0, 1, 2, 3, 4, 5, 6, 7, 8, 9] ?_)
  refine Vs 1 ?_
  refine Ld hs23.at0 ?_
  refine Vs 1 ?_
  refine Ld hs23.at0 ?_
  refine Vs 1 ?_
  refine Ld hs23.at0 ?_
  refine Bs 23 [(.slice a0_0 x0.Points.length n0_0), (.slice a0_1 x0.Multipliers.length n0_1), (.slice a0_2 x0.Penalties.length n0_2)] hs23 (fun b27 w28 hs29 => ?_)
  have hr31 : Aw (tSl As) 23 F0 (some ⟨b27, 0, none⟩) 3 [x0.Points, x0.Multipliers, x0.Penalties] (some b27, .cells ([(.slice a0_0 x0.Points.length n0_0), (.slice a0_1 x0.Multipliers.length n0_1), (.slice a0_2 x0.Penalties.length n0_2)] : List Value).toArray 23 (0, 0)) := SC ⟨⟨a0_0, n0_0, rfl, hb0_0, hs0_0⟩, ⟨⟨a0_1, n0_1, rfl, hb0_1, hs0_1⟩, ⟨⟨a0_2, n0_2, rfl, hb0_2, hs0_2⟩, rfl⟩⟩⟩ (by simp)
  have hb35 := SB hr31
  obtain ⟨F1, hs32, le33, hs34⟩ := hs29.fr0 hr31
  obtain ⟨r36, hr37, h38⟩ := bind_some h26
  refine Cl' CO hs32 (CT N w28 F1 hs32.pers ([x0.Points, x0.Multipliers, x0.Penalties]) (some ⟨b27, 0, none⟩) 3 hb35 hs34 _ hr37) ?_
  rintro _ F2 w40 hs41 le42 ⟨ar36_0_0, nr36_0_0, rfl, hbr36_0_0, hsr36_0_0⟩
  refine Vs 2 ?_
  refine Nt ?_
  obtain ⟨o44, ho45, h46⟩ := bind_some h38
  refine So (fun f w => ∃ (s57 : (Int × Int)) (F4 : Mem), o44 = .done s57 /\ HS w0 F0 w F4 [(sb b21 (AU x0 a0_0 n0_0 a0_1 n0_1 a0_2 n0_2 a0_3 n0_3) 26)] /\ Sh F2 F4 /\ FI f [] [(1, (pt b21 0)), (4, (vi s57.1))]) ?_ ?_
  ·refine Bk ?_
   refine Sg (by kernel_rfl) (fun m f w => ∃ (s47 : (Int × Int)) (F3 : Mem), A0 (CK N x0 r36) m s47 = some o44 /\ HS w0 F0 w F3 [(sb b21 (AU x0 a0_0 n0_0 a0_1 n0_1 a0_2 n0_2 a0_3 n0_3) 26)] /\ Sh F2 F3 /\ FI f [] [(1, (pt b21 0)), (4, (vi s47.1)), (30, (.slice ar36_0_0 r36.length nr36_0_0)), (31, (vi (r36.length : Int))), (32, (vi s47.2))]) N ⟨(0, 0), F2, ho45, hs41, (Si _), fI⟩ ?_
   rintro m64 f w48 ⟨s47, F3, hit65, hs49, le50, ⟨_, rfl⟩⟩
   obtain ⟨m66, fl67, rfl, hb68, hnx69⟩ := AQ hit65
   refine Sq (Rg [0] ?_)
   refine Vs 1 ?_
   refine Nss ?_
   refine Cd hb68 (fun hb70 h71 => ?_) (fun hb70 h72 => ?_)
   ·refine Sc ?_
    refine Ac ?_
    refine Sq ?_
    refine Bk ?_
    refine Sq (Rg [0, 1, 2, 3] ?_)
    obtain ⟨x73, hx74, h76⟩ := bind_some h71
    obtain ⟨hi75, hx74'⟩ := Ap hx74
    obtain ⟨b77, o78, C79, E80, fz81, rfl, hF83, hE84⟩ := Su (Sk hsr36_0_0 le50) hx74'
    obtain ⟨ae85_2, ne85_2, ae85_5, ne85_5, hc86, hbe85_2, hse85_2, hbe85_5, hse85_5⟩ := hE84 _ _ hx74'
    refine Ix hi75 ?_
    refine Lx 0 (hs49.pers _ _ hF83) hc86 ?_
    refine Al' 56 #[(vi 0), (vi 0), (.slice none ([] : List Expr).length 0), (vi 0), (vi 0), (.slice none ([] : List Expr).length 0)] hs49 (fun b87 w88 hs89 => ?_)
    refine St0 (Dq x73 ae85_2 ne85_2 ae85_5 ne85_5) hs89 (fun w90 hs91 => ?_)
    refine Nss (Rg [0, 1, 2] ?_)
    refine Vs 3 ?_
    refine Nss (Rg [0, 1, 2] ?_)
    refine Ld hs91.at0 ?_
    obtain ⟨r92, hr93, h94⟩ := bind_some h76
    refine Cl' GP hs91 (Hv N w90 F3 hs91.pers x73 ae85_2 ne85_2 hbe85_2 hse85_2 ae85_5 ne85_5 hbe85_5 hse85_5 _ hr93) ?_
    rintro _ F5 w96 hs97 le98 rfl
    refine Vs 1 ?_
    refine Nt ?_
    refine Cd h94 (fun hb100 h101 => ?_) (fun hb100 h102 => ?_)
    ·refine Sq (Rg [0, 1, 2] ?_)
     refine Vs 3 ?_
     refine Nt ?_
     refine Rt ?_
     refine Ai ?_
     refine Ae ?_
     refine Ae ?_
     refine Ai ?_
     have hret := BJ h101 hnx69
     subst hret
     refine .inr ?_
     refine Ae ?_
     obtain rfl := Aa h46
     exact Re [(vi 62), (vi (W64 (s47.1 + 1)))] hs97 rfl
    ·refine Sc ?_
     refine Aq ?_
     refine Ac ?_
     refine Rg [0, 1] ?_
     refine Vs 2 ?_
     refine Sd ?_
     have hn103 := AM h102 hnx69
     exact ⟨m66, Nat.lt_succ_self _, ((W64 (s47.1 + 1)), (W64 (s47.2 + 1))), F5, hn103, hs97.dr0, (le50.trans le98), fI⟩
   ·refine Ex ?_
    refine Av ?_
    refine Av ?_
    refine AE rfl ?_
    have ho104 := AX h72 hnx69
    exact .inl ⟨rfl, (s47.1, s47.2), F3, ho104, hs49, le50, fI⟩
  ·rintro f w58 ⟨s57, F4, rfl, hs59, le60, ⟨_, rfl⟩⟩
   have h105 := Bo h46
   refine Ac ?_
   refine Sq ?_
   refine Sq (Rg [0, 1, 2, 3] ?_)
   refine Vs 1 ?_
   refine Ld hs59.at0 ?_
   refine Vs 2 ?_
   refine Nt ?_
   obtain ⟨o106, ho107, h108⟩ := bind_some h105
   refine So (fun f w => ∃ (s118 : (Int × Int)) (F7 : Mem), o106 = .done s118 /\ HS w0 F0 w F7 [] /\ Sh F4 F7 /\ FI f [] []) ?_ ?_
   ·refine Bk ?_
    refine Sg (by kernel_rfl) (fun m f w => ∃ (s109 : (Int × Int)) (F6 : Mem), A0 (CJ N x0 r36 s57) m s109 = some o106 /\ HS w0 F0 w F6 [] /\ Sh F4 F6 /\ FI f [] [(4, (vi s109.1)), (44, (.slice a0_3 x0.Repeats.length n0_3)), (45, (vi (x0.Repeats.length : Int))), (46, (vi s109.2))]) N ⟨(s57.1, 0), F4, ho107, hs59.dr0, (Si _), fI⟩ ?_
    rintro m123 f w110 ⟨s109, F6, hit124, hs111, le112, ⟨_, rfl⟩⟩
    obtain ⟨m125, fl126, rfl, hb127, hnx128⟩ := AQ hit124
    refine Sq (Rg [0] ?_)
    refine Vs 1 ?_
    refine Nss ?_
    refine Cd hb127 (fun hb129 h130 => ?_) (fun hb129 h131 => ?_)
    ·refine Sc ?_
     refine Ac ?_
     refine Sq ?_
     refine Bk ?_
     refine Sq (Rg [0, 1, 2, 3] ?_)
     obtain ⟨x132, hx133, h135⟩ := bind_some h130
     obtain ⟨hi134, hx133'⟩ := Ap hx133
     obtain ⟨b136, o137, C138, E139, fz140, rfl, hF142, hE143⟩ := Su (Sk hs0_3 (((le33.trans le42).trans le60).trans le112)) hx133'
     obtain ⟨ae144_2, ne144_2, hc145, hbe144_2, hse144_2⟩ := (Az (hE143 _ _ hx133'))
     refine Ix hi134 ?_
     refine Lx 0 (hs111.pers _ _ hF142) hc145 ?_
     refine Al' 33 #[(vi 0), (vi 0), (.slice none ([] : List Expr).length 0)] hs111 (fun b146 w147 hs148 => ?_)
     refine St0 (Ag x132 ae144_2 ne144_2) hs148 (fun w149 hs150 => ?_)
     refine Nss (Rg [0, 1, 2] ?_)
     refine Vs 3 ?_
     refine Nss (Rg [0, 1, 2] ?_)
     refine Ld hs150.at0 ?_
     obtain ⟨r151, hr152, h153⟩ := bind_some h135
     refine Cl' GW hs150 (H7 N w149 F6 hs150.pers x132 ae144_2 ne144_2 hbe144_2 hse144_2 1 _ hr152) ?_
     rintro _ F8 w155 hs156 le157 rfl
     refine Vs 1 ?_
     refine Nt ?_
     refine Cd h153 (fun hb159 h160 => ?_) (fun hb159 h161 => ?_)
     ·refine Sq (Rg [0, 1, 2] ?_)
      refine Vs 3 ?_
      refine Nt ?_
      refine Rt ?_
      refine Ai ?_
      refine Ae ?_
      refine Ae ?_
      refine Ai ?_
      have hret := BJ h160 hnx128
      subst hret
      refine .inr ?_
      refine Ae ?_
      obtain rfl := Aa h108
      exact Re [(vi 62), (vi (W64 (s109.1 + 1)))] hs156 rfl
     ·refine Sc ?_
      refine Aq ?_
      refine Ac ?_
      refine Rg [0, 1] ?_
      refine Vs 2 ?_
      refine Sd ?_
      have hn162 := AM h161 hnx128
      exact ⟨m125, Nat.lt_succ_self _, ((W64 (s109.1 + 1)), (W64 (s109.2 + 1))), F8, hn162, hs156.dr0, (le112.trans le157), fI⟩
    ·refine Ex ?_
     refine Av ?_
     refine Av ?_
     refine AE rfl ?_
     have ho163 := AX h131 hnx128
     exact .inl ⟨rfl, (s109.1, s109.2), F6, ho163, hs111, le112, fI⟩
   ·rintro f w119 ⟨s118, F7, rfl, hs120, le121, ⟨_, rfl⟩⟩
    have h164 := Bo h108
    refine Ac ?_
    refine Sq (Rg [0, 1] ?_)
    refine Vs 2 ?_
    refine Nt ?_
    refine Rt ?_
    obtain rfl := Aa h164
    exact Re [(vi 0), (vi 0)] hs120 rfl
def DY (N : Nat) (x0 : Be) : Option Bool :=
 ((Fa N x0).bind fun r24 => some (r24.1 == 0))
theorem GX : Al Tryz.prog 54 := fun _ _ => by kernel_rfl
theorem HN (N : Nat) (w0 : World) (F0 : Mem) (hF : SH w0 F0) (x0 : Be) (a0_0 : SG) (n0_0 : Nat) (hb0_0 : LC x0.Points.length n0_0) (hs0_0 : SlA As F0 a0_0 x0.Points) (a0_1 : SG) (n0_1 : Nat) (hb0_1 : LC x0.Multipliers.length n0_1) (hs0_1 : SlA As F0 a0_1 x0.Multipliers) (a0_2 : SG) (n0_2 : Nat) (hb0_2 : LC x0.Penalties.length n0_2) (hs0_2 : SlA As F0 a0_2 x0.Penalties) (a0_3 : SG) (n0_3 : Nat) (hb0_3 : LC x0.Repeats.length n0_3) (hs0_3 : SlA Ao F0 a0_3 x0.Repeats) (r : Bool) (h : DY N x0 = some r) :
  Calls Tryz.prog 54 ([(.agg (AU x0 a0_0 n0_0 a0_1 n0_1 a0_2 n0_2 a0_3 n0_3))] : List Value).toArray w0 (AJ w0 F0 fun F' v => v = (.bool r)) := by
 have hs0 := Sj hF
 refine Go 12 Tryz.func54 ?_
 refine Sq (Rg [0, 1] ?_)
 refine Bx' 26 (AU x0 a0_0 n0_0 a0_1 n0_1 a0_2 n0_2 a0_3 n0_3) hs0 (fun b21 w22 hs23 => ?_)
 refine Vs 1 ?_
 refine Nss (Rg [0, 1, 2, 3, 4, 5, 6] ?_)
 refine Ld hs23.at0 ?_
 obtain ⟨r24, hr25, h26⟩ := bind_some h
 refine Cl' KW hs23 (LE N w22 F0 hs23.pers x0 a0_0 n0_0 hb0_0 hs0_0 a0_1 n0_1 hb0_1 hs0_1 a0_2 n0_2 hb0_2 hs0_2 a0_3 n0_3 hb0_3 hs0_3 _ hr25) ?_
 rintro _ F1 w28 hs29 le30 rfl
 refine Vs 5 ?_
 refine Nss (Rg [0, 1, 2] ?_)
 refine Vs 3 ?_
 refine Nt ?_
 refine Rt ?_
 obtain rfl := Aa h26
 exact Re [(.bool (r24.1 == 0))] hs29 rfl
def JM (N : Nat) (x0 : Be) (x1 : (List Int)) : Option Int :=
 ((DY N x0).bind fun r24 => (bif (!r24) then some 62 else ((FG N x1).bind fun r35 => (bif (!r35) then some 63 else some 0))))
theorem KT : Al Tryz.prog 106 := fun _ _ => by kernel_rfl
theorem LA (N : Nat) (w0 : World) (F0 : Mem) (hF : SH w0 F0) (x0 : Be) (a0_0 : SG) (n0_0 : Nat) (hb0_0 : LC x0.Points.length n0_0) (hs0_0 : SlA As F0 a0_0 x0.Points) (a0_1 : SG) (n0_1 : Nat) (hb0_1 : LC x0.Multipliers.length n0_1) (hs0_1 : SlA As F0 a0_1 x0.Multipliers) (a0_2 : SG) (n0_2 : Nat) (hb0_2 : LC x0.Penalties.length n0_2) (hs0_2 : SlA As F0 a0_2 x0.Penalties) (a0_3 : SG) (n0_3 : Nat) (hb0_3 : LC x0.Repeats.length n0_3) (hs0_3 : SlA Ao F0 a0_3 x0.Repeats) (x1 : (List Int)) (a1_0 : SG) (n1_0 : Nat) (hb1_0 : LC x1.length n1_0) (hs1_0 : SlA Ck F0 a1_0 x1) (r : Int) (h : JM N x0 x1 = some r) :
  Calls Tryz.prog 106 ([(.agg (AU x0 a0_0 n0_0 a0_1 n0_1 a0_2 n0_2 a0_3 n0_3)), (.slice a1_0 x1.length n1_0)] : List Value).toArray w0 (AJ w0 F0 fun F' v => v = (vi r)) := by
 have hs0 := Sj hF
 refine Go 13 Tryz.func106 ?_
 refine Sq (Rg [0, 1] ?_)
 refine Bx' 26 (AU x0 a0_0 n0_0 a0_1 n0_1 a0_2 n0_2 a0_3 n0_3) hs0 (fun b21 w22 hs23 => ?_)
 refine Vs 1 ?_
 refine Nss ?_
 refine Bk ?_
 refine Sq (Rg [0, 1, 2, 3] ?_)
 refine Ld hs23.at0 ?_
 obtain ⟨r24, hr25, h26⟩ := bind_some h
 refine Cl' GX hs23 (HN N w22 F0 hs23.pers x0 a0_0 n0_0 hb0_0 hs0_0 a0_1 n0_1 hb0_1 hs0_1 a0_2 n0_2 hb0_2 hs0_2 a0_3 n0_3 hb0_3 hs0_3 _ hr25) ?_
 rintro _ F1 w28 hs29 le30 rfl
 refine Vs 2 ?_
 refine Nt ?_
 refine Cd h26 (fun hb32 h33 => ?_) (fun hb32 h34 => ?_)
 ·refine Sq (Rg [0] ?_)
  refine Vs 1 ?_
  refine Nt ?_
  refine Rt ?_
  refine Ai ?_
  refine Ae ?_
  obtain rfl := Aa h33
  exact Re [(vi 62)] hs29 rfl
 ·refine Sq (Rg [0, 1, 2, 3] ?_)
  refine Vs 1 ?_
  obtain ⟨r35, hr36, h37⟩ := bind_some h34
  refine Cl' Hr hs29 (H5 N w28 F1 hs29.pers x1 a1_0 n1_0 hb1_0 (Sk hs1_0 le30) _ hr36) ?_
  rintro _ F2 w39 hs40 le41 rfl
  refine Vs 2 ?_
  refine Nt ?_
  refine Cd h37 (fun hb43 h44 => ?_) (fun hb43 h45 => ?_)
  ·refine Sq (Rg [0] ?_)
   refine Vs 1 ?_
   refine Nt ?_
   refine Rt ?_
   refine Ai ?_
   refine Ae ?_
   obtain rfl := Aa h44
   exact Re [(vi 63)] hs40 rfl
  ·refine Sc ?_
   refine Aq ?_
   refine Ac ?_
   refine Sq (Rg [0] ?_)
   refine Vs 1 ?_
   refine Nt ?_
   refine Rt ?_
   obtain rfl := Aa h45
   exact Re [(vi 0)] hs40 rfl
def Cf (N : Nat) (x0 : Be) : (Int × Int) -> Option (Bi (Int × Int) (Int × Int)) := fun s44 =>
 (bif (decide (s44.2 < ([x0.Points, x0.Multipliers, x0.Penalties].length : Int))) then ((idx [x0.Points, x0.Multipliers, x0.Penalties] s44.2).bind fun x69 => ((DT N x69).bind fun r80 => ((idx [x0.Points, x0.Multipliers, x0.Penalties] s44.2).bind fun x88 => (bif (decide (r80 < (x88.length : Int))) then some (.ret (62, (W64 (s44.1 + r80)))) else some (.next ((W64 (s44.1 + r80)), (W64 (s44.2 + 1)))))))) else some (.done (s44.1, s44.2)))
def Dn (N : Nat) (x0 : Be) (s53 : (Int × Int)) : Int -> Option (Bi (Int × Int) Int) := fun s108 =>
 (bif (decide (s108 < (x0.Repeats.length : Int))) then ((idx x0.Repeats s108).bind fun x130 => ((Da N x130 1).bind fun r144 => (bif (!r144) then some (.ret (62, (W64 (s53.1 + s108)))) else some (.next (W64 (s108 + 1)))))) else some (.done s108))
def Fg (N : Nat) (x0 : Be) : Option (Int × Int) :=
 (bif ((decide ((x0.Points.length : Int) > 64)) || ((decide ((x0.Multipliers.length : Int) > 64)) || ((decide ((x0.Penalties.length : Int) > 64)) || (decide ((x0.Repeats.length : Int) > 64))))) then some (2, 0) else ((A0 (Cf N x0) N (1, 0)).bind fun o => o.k (fun r => some r) (fun s53 => ((A0 (Dn N x0 s53) N 0).bind fun o => o.k (fun r => some r) (fun s116 => some (0, 0))))))
theorem KZ : Al Tryz.prog 71 := fun _ _ => by kernel_rfl
theorem LI (N : Nat) (w0 : World) (F0 : Mem) (hF : SH w0 F0) (x0 : Be) (a0_0 : SG) (n0_0 : Nat) (hb0_0 : LC x0.Points.length n0_0) (hs0_0 : SlA As F0 a0_0 x0.Points) (a0_1 : SG) (n0_1 : Nat) (hb0_1 : LC x0.Multipliers.length n0_1) (hs0_1 : SlA As F0 a0_1 x0.Multipliers) (a0_2 : SG) (n0_2 : Nat) (hb0_2 : LC x0.Penalties.length n0_2) (hs0_2 : SlA As F0 a0_2 x0.Penalties) (a0_3 : SG) (n0_3 : Nat) (hb0_3 : LC x0.Repeats.length n0_3) (hs0_3 : SlA Ao F0 a0_3 x0.Repeats) (r : (Int × Int)) (h : Fg N x0 = some r) :
  Calls Tryz.prog 71 ([(.agg (AU x0 a0_0 n0_0 a0_1 n0_1 a0_2 n0_2 a0_3 n0_3))] : List Value).toArray w0 (AJ w0 F0 fun F' v => v = (.tuple #[(vi r.1), (vi r.2)])) := by
 have hs0 := Sj hF
 refine Go 79 Tryz.func71 ?_
 refine Sq (Rg [0, 1, 2] ?_)
 refine Bx' 26 (AU x0 a0_0 n0_0 a0_1 n0_1 a0_2 n0_2 a0_3 n0_3) hs0 (fun b21 w22 hs23 => ?_)
 refine Vs 2 ?_
 refine Nss ?_
 refine Sq (Rg [0, 1, 2, 3, 4, 5, 6, 7, 8, 9, 10, 11, 12, 13, 14, 15, 16, 17, 18, 19, 20, 21] ?_)
 refine Sn (fun f w => ∃ (F1 : Mem), HS w0 F0 w F1 [(sb b21 (AU x0 a0_0 n0_0 a0_1 n0_1 a0_2 n0_2 a0_3 n0_3) 26)] /\ Sh F0 F1 /\ FI f [] [(1, (pt b21 0)), (30, (.bool ((decide ((x0.Points.length : Int) > 64)) || ((decide ((x0.Multipliers.length : Int) > 64)) || ((decide ((x0.Penalties.length : Int) > 64)) || (decide ((x0.Repeats.length : Int) > 64)))))))]) ?_ ?_
 ·refine Vs 1 ?_
  refine Ld hs23.at0 ?_
  refine Vs 3 ?_
  refine Sm (decide ((x0.Points.length : Int) > 64)) (fun hb30 => ?_) (fun hb30 => ?_)
  ·refine Ss hb30 4 ?_
   refine Pk1 hb30 ?_
   refine Vs 1 ?_
   refine Ss (rfl : true = true) 4 ?_
   refine Pk1 (rfl : true = true) ?_
   refine Vs 1 ?_
   refine Ss (rfl : true = true) 4 ?_
   refine Pk1 (rfl : true = true) ?_
   exact Sd ⟨rfl, F0, hs23, (Si _), (fJ ⟨rfl, (congrArg Value.bool (FL hb30 rfl)), trivial⟩)⟩
  ·refine Vgs hb30 1 ?_
   refine Lg hb30 hs23.at0 ?_
   refine Vgs hb30 2 ?_
   refine Pk0 hb30 ?_
   refine Vs 1 ?_
   refine Sm (decide ((x0.Multipliers.length : Int) > 64)) (fun hb31 => ?_) (fun hb31 => ?_)
   ·refine Ss hb31 4 ?_
    refine Pk1 hb31 ?_
    refine Vs 1 ?_
    refine Ss (rfl : true = true) 4 ?_
    refine Pk1 (rfl : true = true) ?_
    exact Sd ⟨rfl, F0, hs23, (Si _), (fJ ⟨rfl, (congrArg Value.bool (BQ hb30 (FL hb31 rfl))), trivial⟩)⟩
   ·refine Vgs hb31 1 ?_
    refine Lg hb31 hs23.at0 ?_
    refine Vgs hb31 2 ?_
    refine Pk0 hb31 ?_
    refine Vs 1 ?_
    refine Sm (decide ((x0.Penalties.length : Int) > 64)) (fun hb32 => ?_) (fun hb32 => ?_)
    ·refine Ss hb32 4 ?_
     refine Pk1 hb32 ?_
     exact Sd ⟨rfl, F0, hs23, (Si _), (fJ ⟨rfl, (congrArg Value.bool (BQ hb30 (BQ hb31 (FL hb32 rfl)))), trivial⟩)⟩
    ·refine Vgs hb32 1 ?_
     refine Lg hb32 hs23.at0 ?_
     refine Vgs hb32 2 ?_
     refine Pk0 hb32 ?_
     exact Sd ⟨rfl, F0, hs23, (Si _), (fJ ⟨rfl, (congrArg Value.bool (BQ hb30 (BQ hb31 (BQ hb32 rfl)))), trivial⟩)⟩
 ·rintro f w24 ⟨F1, hs25, le26, ⟨_, rfl⟩⟩
  refine Ac ?_
  refine Cd h (fun hb33 h34 => ?_) (fun hb33 h35 => ?_)
  ·refine Sq (Rg [0, 1] ?_)
   refine Vs 2 ?_
   refine Nt ?_
   refine Rt ?_
   refine Ae ?_
   obtain rfl := Aa h34
   exact Re [(vi 2), (vi 0)] hs25 rfl
  ·refine Sc ?_
   refine Ac ?_
   refine Sq (Rg [0] ?_)
   refine Vs 1 ?_
   refine Nss (Rg [0, 1, 2, 3, 4, 5, 6, 7] ?_)
   refine Vs 1 ?_
   refine Ld hs25.at0 ?_
   refine Vs 1 ?_
   refine Ld hs25.at0 ?_
   refine Vs 1 ?_
   refine Ld hs25.at0 ?_
   refine Bs 23 [(.slice a0_0 x0.Points.length n0_0), (.slice a0_1 x0.Multipliers.length n0_1), (.slice a0_2 x0.Penalties.length n0_2)] hs25 (fun b36 w37 hs38 => ?_)
   have hr40 : Aw (tSl As) 23 F1 (some ⟨b36, 0, none⟩) 3 [x0.Points, x0.Multipliers, x0.Penalties] (some b36, .cells ([(.slice a0_0 x0.Points.length n0_0), (.slice a0_1 x0.Multipliers.length n0_1), (.slice a0_2 x0.Penalties.length n0_2)] : List Value).toArray 23 (0, 0)) := SC ⟨⟨a0_0, n0_0, rfl, hb0_0, (Sk hs0_0 le26)⟩, ⟨⟨a0_1, n0_1, rfl, hb0_1, (Sk hs0_1 le26)⟩, ⟨⟨a0_2, n0_2, rfl, hb0_2, (Sk hs0_2 le26)⟩, rfl⟩⟩⟩ (by simp)
   refine Vs 1 ?_
   refine Nss ?_
   refine Sq (Rg [0] ?_)
   refine Vs 1 ?_
   refine Nt ?_
   obtain ⟨o41, ho42, h43⟩ := bind_some h35
   refine So (fun f w => ∃ (s53 : (Int × Int)) (F3 : Mem), o41 = .done s53 /\ HS w0 F0 w F3 [(sb b21 (AU x0 a0_0 n0_0 a0_1 n0_1 a0_2 n0_2 a0_3 n0_3) 26)] /\ Sh F1 F3 /\ FI f [] [(1, (pt b21 0)), (4, (vi s53.1))]) ?_ ?_
   ·refine Bk ?_
    refine Sg (by kernel_rfl) (fun m f w => ∃ (s44 : (Int × Int)) (F2 : Mem), A0 (Cf N x0) m s44 = some o41 /\ HS w0 F0 w F2 [(some b36, .cells ([(.slice a0_0 x0.Points.length n0_0), (.slice a0_1 x0.Multipliers.length n0_1), (.slice a0_2 x0.Penalties.length n0_2)] : List Value).toArray 23 (0, 0)), (sb b21 (AU x0 a0_0 n0_0 a0_1 n0_1 a0_2 n0_2 a0_3 n0_3) 26)] /\ Sh F1 F2 /\ FI f [] [(1, (pt b21 0)), (4, (vi s44.1)), (5, (.slice (some ⟨b36, 0, none⟩) [x0.Points, x0.Multipliers, x0.Penalties].length 3)), (6, (vi s44.2))]) N ⟨(1, 0), F1, ho42, hs38, (Si _), fI⟩ ?_
    rintro m60 f w45 ⟨s44, F2, hit61, hs46, le47, ⟨_, rfl⟩⟩
    obtain ⟨m62, fl63, rfl, hb64, hnx65⟩ := AQ hit61
    refine Sq ?_
    refine Sq (Rg [0, 1, 2, 3] ?_)
    refine Vs 4 ?_
    refine Nt ?_
    refine Cd hb64 (fun hb66 h67 => ?_) (fun hb66 h68 => ?_)
    ·refine Sc ?_
     refine Ac ?_
     refine Sq ?_
     refine Bk ?_
     refine Sq (Rg [0, 1, 2, 3, 4, 5] ?_)
     refine Vs 2 ?_
     obtain ⟨x69, hx70, h72⟩ := bind_some h67
     obtain ⟨hi71, hx70'⟩ := Ap hx70
     obtain ⟨b73, C74, ha75, he76, hE77⟩ := SD (hr40.mono le47) hx70'
     cases ha75
     cases he76
     obtain ⟨ae78_0, ne78_0, hc79, hbe78_0, hse78_0⟩ := hE77 _ _ hx70'
     refine Ix0 hi71 ?_
     refine Lx 0 hs46.at0 hc79 ?_
     obtain ⟨r80, hr81, h82⟩ := bind_some h72
     refine Cl' Jx hs46 (J9 N w45 F2 hs46.pers x69 ae78_0 ne78_0 hbe78_0 hse78_0 _ hr81) ?_
     rintro _ F4 w84 hs85 le86 rfl
     refine Vs 1 ?_
     refine Nss ?_
     refine Sq (Rg [0, 1, 2, 3, 4, 5, 6] ?_)
     refine Vs 3 ?_
     obtain ⟨x88, hx89, h91⟩ := bind_some h82
     obtain ⟨hi90, hx89'⟩ := Ap hx89
     obtain ⟨b92, C93, ha94, he95, hE96⟩ := SD (hr40.mono (le47.trans le86)) hx89'
     cases ha94
     cases he95
     obtain ⟨ae97_0, ne97_0, hc98, hbe97_0, hse97_0⟩ := hE96 _ _ hx89'
     refine Ix0 hi90 ?_
     refine Lx 0 hs85.at0 hc98 ?_
     refine Vs 2 ?_
     refine Nt ?_
     refine Cd h91 (fun hb99 h100 => ?_) (fun hb99 h101 => ?_)
     ·refine Sq (Rg [0, 1, 2, 3, 4] ?_)
      refine Vs 5 ?_
      refine Nt ?_
      refine Rt ?_
      refine Ae ?_
      refine Ai ?_
      refine Ae ?_
      refine Ae ?_
      refine Ai ?_
      have hret := BJ h100 hnx65
      subst hret
      refine .inr ?_
      refine Ae ?_
      obtain rfl := Aa h43
      exact Re [(vi 62), (vi (W64 (s44.1 + r80)))] hs85 rfl
     ·refine Sc ?_
      refine Ac ?_
      refine Rg [0, 1, 2, 3] ?_
      refine Vs 4 ?_
      refine Sd ?_
      refine Aq ?_
      refine Ac ?_
      refine Rg [0, 1, 2] ?_
      refine Vs 3 ?_
      refine Sd ?_
      have hn102 := AM h101 hnx65
      exact ⟨m62, Nat.lt_succ_self _, ((W64 (s44.1 + r80)), (W64 (s44.2 + 1))), F4, hn102, hs85, (le47.trans le86), fI⟩
    ·refine Ex ?_
     refine Av ?_
     refine Av ?_
     refine AE rfl ?_
     have ho103 := AX h68 hnx65
     exact .inl ⟨rfl, (s44.1, s44.2), F2, ho103, hs46.dr0, le47, fI⟩
   ·rintro f w54 ⟨s53, F3, rfl, hs55, le56, ⟨_, rfl⟩⟩
    have h104 := Bo h43
    refine Ac ?_
    refine Sq ?_
    refine Sq (Rg [0] ?_)
    refine Vs 1 ?_
    refine Nt ?_
    obtain ⟨o105, ho106, h107⟩ := bind_some h104
    refine So (fun f w => ∃ (s116 : Int) (F6 : Mem), o105 = .done s116 /\ HS w0 F0 w F6 [] /\ Sh F3 F6 /\ FI f [] []) ?_ ?_
    ·refine Bk ?_
     refine Sg (by kernel_rfl) (fun m f w => ∃ (s108 : Int) (F5 : Mem), A0 (Dn N x0 s53) m s108 = some o105 /\ HS w0 F0 w F5 [(sb b21 (AU x0 a0_0 n0_0 a0_1 n0_1 a0_2 n0_2 a0_3 n0_3) 26)] /\ Sh F3 F5 /\ FI f [] [(1, (pt b21 0)), (4, (vi s53.1)), (8, (vi s108))]) N ⟨0, F3, ho106, hs55, (Si _), fI⟩ ?_
     rintro m121 f w109 ⟨s108, F5, hit122, hs110, le111, ⟨_, rfl⟩⟩
     obtain ⟨m123, fl124, rfl, hb125, hnx126⟩ := AQ hit122
     refine Sq ?_
     refine Sq (Rg [0, 1, 2, 3, 4] ?_)
     refine Vs 2 ?_
     refine Ld hs110.at0 ?_
     refine Vs 2 ?_
     refine Nt ?_
     refine Cd hb125 (fun hb127 h128 => ?_) (fun hb127 h129 => ?_)
     ·refine Sc ?_
      refine Ac ?_
      refine Sq ?_
      refine Bk ?_
      refine Sq (Rg [0, 1, 2, 3, 4, 5, 6] ?_)
      refine Vs 1 ?_
      refine Ld hs110.at0 ?_
      refine Vs 1 ?_
      obtain ⟨x130, hx131, h133⟩ := bind_some h128
      obtain ⟨hi132, hx131'⟩ := Ap hx131
      obtain ⟨b134, o135, C136, E137, fz138, rfl, hF140, hE141⟩ := Su (Sk hs0_3 ((le26.trans le56).trans le111)) hx131'
      obtain ⟨ae142_2, ne142_2, hc143, hbe142_2, hse142_2⟩ := (Az (hE141 _ _ hx131'))
      refine Ix hi132 ?_
      refine Lx 0 (hs110.pers _ _ hF140) hc143 ?_
      obtain ⟨r144, hr145, h146⟩ := bind_some h133
      refine Cl' EQ hs110 (FB N w109 F5 hs110.pers x130 ae142_2 ne142_2 hbe142_2 hse142_2 1 _ hr145) ?_
      rintro _ F7 w148 hs149 le150 rfl
      refine Vs 1 ?_
      refine Nt ?_
      refine Cd h146 (fun hb152 h153 => ?_) (fun hb152 h154 => ?_)
      ·refine Sq (Rg [0, 1, 2, 3, 4] ?_)
       refine Vs 5 ?_
       refine Nt ?_
       refine Rt ?_
       refine Ai ?_
       refine Ae ?_
       refine Ae ?_
       refine Ai ?_
       have hret := BJ h153 hnx126
       subst hret
       refine .inr ?_
       refine Ae ?_
       obtain rfl := Aa h107
       exact Re [(vi 62), (vi (W64 (s53.1 + s108)))] hs149 rfl
      ·refine Sc ?_
       refine Aq ?_
       refine Ac ?_
       refine Rg [0, 1, 2] ?_
       refine Vs 3 ?_
       refine Sd ?_
       have hn155 := AM h154 hnx126
       exact ⟨m123, Nat.lt_succ_self _, (W64 (s108 + 1)), F7, hn155, hs149, (le111.trans le150), fI⟩
     ·refine Ex ?_
      refine Av ?_
      refine Av ?_
      refine AE rfl ?_
      have ho156 := AX h129 hnx126
      exact .inl ⟨rfl, s108, F5, ho156, hs110.dr0, le111, fI⟩
    ·rintro f w117 ⟨s116, F6, rfl, hs118, le119, ⟨_, rfl⟩⟩
     have h157 := Bo h107
     refine Ac ?_
     refine Sq (Rg [0, 1] ?_)
     refine Vs 2 ?_
     refine Nt ?_
     refine Rt ?_
     obtain rfl := Aa h157
     exact Re [(vi 0), (vi 0)] hs118 rfl
def Fd (N : Nat) (x0 : Be) : Option Bool :=
 ((Fg N x0).bind fun r24 => some (r24.1 == 0))
theorem KX : Al Tryz.prog 74 := fun _ _ => by kernel_rfl
theorem LF (N : Nat) (w0 : World) (F0 : Mem) (hF : SH w0 F0) (x0 : Be) (a0_0 : SG) (n0_0 : Nat) (hb0_0 : LC x0.Points.length n0_0) (hs0_0 : SlA As F0 a0_0 x0.Points) (a0_1 : SG) (n0_1 : Nat) (hb0_1 : LC x0.Multipliers.length n0_1) (hs0_1 : SlA As F0 a0_1 x0.Multipliers) (a0_2 : SG) (n0_2 : Nat) (hb0_2 : LC x0.Penalties.length n0_2) (hs0_2 : SlA As F0 a0_2 x0.Penalties) (a0_3 : SG) (n0_3 : Nat) (hb0_3 : LC x0.Repeats.length n0_3) (hs0_3 : SlA Ao F0 a0_3 x0.Repeats) (r : Bool) (h : Fd N x0 = some r) :
  Calls Tryz.prog 74 ([(.agg (AU x0 a0_0 n0_0 a0_1 n0_1 a0_2 n0_2 a0_3 n0_3))] : List Value).toArray w0 (AJ w0 F0 fun F' v => v = (.bool r)) := by
 have hs0 := Sj hF
 refine Go 12 Tryz.func74 ?_
 refine Sq (Rg [0, 1] ?_)
 refine Bx' 26 (AU x0 a0_0 n0_0 a0_1 n0_1 a0_2 n0_2 a0_3 n0_3) hs0 (fun b21 w22 hs23 => ?_)
 refine Vs 1 ?_
 refine Nss (Rg [0, 1, 2, 3, 4, 5, 6] ?_)
 refine Ld hs23.at0 ?_
 obtain ⟨r24, hr25, h26⟩ := bind_some h
 refine Cl' KZ hs23 (LI N w22 F0 hs23.pers x0 a0_0 n0_0 hb0_0 hs0_0 a0_1 n0_1 hb0_1 hs0_1 a0_2 n0_2 hb0_2 hs0_2 a0_3 n0_3 hb0_3 hs0_3 _ hr25) ?_
 rintro _ F1 w28 hs29 le30 rfl
 refine Vs 5 ?_
 refine Nss (Rg [0, 1, 2] ?_)
 refine Vs 3 ?_
 refine Nt ?_
 refine Rt ?_
 obtain rfl := Aa h26
 exact Re [(.bool (r24.1 == 0))] hs29 rfl

structure Nw (N : Nat) (l : List Clause) : Prop where
 n : l.length < N
 w : l.length < 9223372036854775808
 c : ∀ c, c ∈ l -> P4 N c
structure RQ (N : Nat) (l : List Expr) : Prop where
 n : l.length < N
 w : l.length < 9223372036854775808
 c : ∀ c, c ∈ l -> Fit N c
structure MN (N : Nat) (b : Be) : Prop where
 p : Nw N b.Points
 m : Nw N b.Multipliers
 e : Nw N b.Penalties
 r : RQ N b.Repeats
def Mb (l : List Clause) : Bool := decide (l.length <= 64) && l.all B2
theorem Jc {e : Expr} {t : Int} (h : FE e t = true) : kd e = t := by unfold FE at h; simp at h; exact h.2
theorem NA {c : Clause} (h : B2 c = true) : kd c.When = 2 := by unfold B2 at h; simp at h; exact Jc h.1
theorem NB {c : Clause} (h : B2 c = true) : kd c.Then = 1 := by unfold B2 at h; simp at h; exact Jc h.2
theorem Km {l : List Clause} (h : Mb l = true) {c : Clause} (hc : c ∈ l) : B2 c = true := by
 unfold Mb at h; simp only [Bool.and_eq_true, List.all_eq_true] at h; exact h.2 c hc
theorem Nz {l : List Clause} (h : Mb l = true) : l.length <= 64 := by
 unfold Mb at h; simp only [Bool.and_eq_true, decide_eq_true_eq] at h; exact h.1
def fi {α : Type} (p : α -> Bool) (l : List α) : Int := if l.any p then (l.findIdx p : Int) else -1
section
variable {N : Nat} {f : List Int}
theorem Kg {α : Type} {l : List α} {p : α -> Bool} : l.all p = !(l.any fun x => !p x) := by
 rw [List.not_any_eq_all_not]; congr 1; funext n; simp
theorem NG {l : List Clause} (h : Nw N l) : DT N l = some ((l.findIdx fun c => !B2 c : Nat) : Int) := by
 unfold DT
 rw [Gc l (fun c => !B2 c) (fun i => (i : Int)) (fun i hi => by
  unfold CR
  rw [H0 hi, cond_true, CE hi, Option.bind_some, Pl (h.c _ (List.getElem_mem hi)), Option.bind_some]) (by unfold CR; rw [H1, cond_false]) h.n h.w]
 cases ha : l.any fun c => !B2 c with
 | true => rfl
 | false =>
  rw [List.findIdx_eq_length.2 (fun x hx => by
   rw [List.any_eq_false] at ha; have := ha x hx; simpa using this)]
  rfl
def isT (f : List Int) (c : Clause) : Bool := val f c.When == 1
noncomputable def wt (l : List Clause) : Int := l.foldl (fun s c => W64 (s + W64 (nd c.When + nd c.Then))) (l.length : Int)
theorem Ko {l : List Clause} (h : Nw N l) : CS N l = some (wt l) := by
 unfold CS wt
 rw [FM l (fun c => (Br N c.When).bind fun r78 => ((Br N c.Then).bind fun r86 => some (W64 (r78 + r86)))) (fun c => W64 (nd c.When + nd c.Then)) (fun s r => W64 (s + r)) (fun c hc => by rw [Ke (h.c c hc).1, Option.bind_some, Ke (h.c c hc).2]; rfl) (fun s i => by
  unfold Ec
  simp only
  cases decide (i < (l.length : Int)) with
  | false => rfl
  | true =>
   rw [cond_true, cond_true]
   cases idx l i with
   | none => rfl
   | some c =>
    simp only [Option.bind_some]
    cases Br N c.When with
    | none => rfl
    | some a =>
     simp only [Option.bind_some]
     cases Br N c.Then <;> rfl) h.n h.w]
 rfl
noncomputable def N1 (b : Be) : Bool := decide (b.Repeats.foldl (fun s e => W64 (s + nd e)) (W64 (W64 (wt b.Points + wt b.Multipliers) + wt b.Penalties)) <= 2000)
theorem P7 {b : Be} (h : MN N b) : Fh N b = some (N1 b) := by
 unfold Fh N1
 rw [Ko h.p, Option.bind_some, Ko h.m, Option.bind_some, Ko h.e, Option.bind_some, Option.bind_some]
 rw [FM b.Repeats (fun e => Br N e) nd (fun s r => W64 (s + r)) (fun e he => Ke (h.r.c e he)) (fun s i => rfl) h.r.n h.r.w]
 rfl
end
section
variable {N : Nat} {f : List Int}
noncomputable def chk (b : Be) : Int × Int :=
 if b.Points.length > 64 \/ b.Multipliers.length > 64 \/ b.Penalties.length > 64 \/ b.Repeats.length > 64 then (2, 0)
 else if (b.Points ++ b.Multipliers ++ b.Penalties).any (fun c => !B2 c) then (62, ((b.Points ++ b.Multipliers ++ b.Penalties).findIdx (fun c => !B2 c) : Int) + 1)
 else if b.Repeats.any (fun e => !FE e 1) then (62, ((b.Points ++ b.Multipliers ++ b.Penalties).length : Int) + (b.Repeats.findIdx (fun e => !FE e 1) : Int) + 1)
 else (0, 0)
theorem Pm (hN : 1000 < N) {a b c : List Clause} (ha : a.length <= 64) (hb : b.length <= 64) (hc : c.length <= 64) : A2 N [a, b, c] = some (a ++ b ++ c) := by
 obtain ⟨m, rfl⟩ : ∃ m, N = m + 4 := ⟨N - 4, by omega⟩
 unfold A2
 have h1 : A0 (AF (m + 4) [a, b, c]) (m + 4) (0, 0) = some (.done (((a.length + b.length + c.length : Nat) : Int), 3)) := by
  have st : ∀ (n k : Nat) (x : List Clause), n <= 1000 -> x.length <= 64 -> k < 3 -> [a, b, c][k]? = some x -> AF (m + 4) [a, b, c] ((n : Int), (k : Int)) = some (.next (((n + x.length : Nat) : Int), ((k + 1 : Nat) : Int))) := by
   intro n k x hn hx hk hg
   unfold AF
   simp only
   rw [show ([a, b, c].length : Int) = ((3 : Nat) : Int) from rfl, H0 hk, cond_true, IP, hg, Option.bind_some]
   have e : W64 ((n : Int) + (x.length : Int)) = ((n + x.length : Nat) : Int) := by rw [<- Int.natCast_add, Ki (by omega)]
   rw [e, decide_eq_false (by omega), cond_false, Ci (by omega)]
  rw [A0, show ((0 : Int), (0 : Int)) = (((0 : Nat) : Int), ((0 : Nat) : Int)) from rfl, st 0 0 a (by omega) ha (by omega) rfl]
  simp only
  rw [A0, st _ 1 b (by omega) hb (by omega) rfl]
  simp only
  rw [A0, st _ 2 c (by omega) hc (by omega) rfl]
  simp only
  rw [A0]
  unfold AF
  simp only
  rw [show ([a, b, c].length : Int) = ((2 + 1 : Nat) : Int) from rfl, H1, cond_false]
  simp only [Nat.zero_add]
  rfl
 rw [h1]
 have h2 : A7 (m + 4) ((a.length + b.length + c.length : Nat) : Int) = some [] := by
  unfold A7
  rw [decide_eq_false (by omega), cond_false]
  have e0 : W64 (0 - (([] : List Clause).length : Int)) = 0 := rfl
  rw [e0, Int.sub_zero, Ki (by omega)]
  by_cases h0 : (0 : Int) < ((a.length + b.length + c.length : Nat) : Int)
  ·rw [decide_eq_true h0, cond_true]
   unfold mk0
   rw [if_pos ⟨by omega, by omega⟩]
   simp [sub]
  ·rw [decide_eq_false (by omega), cond_false]
 simp only [Bi.k, Option.bind_some]
 rw [h2, Option.bind_some]
 have st : ∀ (s : List Clause) (k : Nat) (x : List Clause), s.length <= 1000 -> x.length <= 64 -> k < 3 -> [a, b, c][k]? = some x -> AN (m + 4) [a, b, c] (((a.length + b.length + c.length : Nat) : Int), 3) [] (s, (k : Int)) = some (.next (s ++ x, ((k + 1 : Nat) : Int))) := by
  intro s k x hn hx hk hg
  unfold AN
  simp only
  rw [show ([a, b, c].length : Int) = ((3 : Nat) : Int) from rfl, H0 hk, cond_true, IP, hg, Option.bind_some, QF (by omega), Option.bind_some, Ci (by omega)]
 rw [A0, show (([] : List Clause), (0 : Int)) = (([] : List Clause), ((0 : Nat) : Int)) from rfl, st [] 0 a (by simp) ha (by omega) rfl]
 simp only
 rw [A0, st _ 1 b (by simp; omega) hb (by omega) rfl]
 simp only
 rw [A0, st _ 2 c (by simp; omega) hc (by omega) rfl]
 simp only
 rw [A0]
 unfold AN
 simp only
 rw [show ([a, b, c].length : Int) = ((2 + 1 : Nat) : Int) from rfl, H1, cond_false]
 simp only [Option.bind_some, List.nil_append]
end
theorem Mp {x : Expr} (h : Ii x) : ∃ n0, ∀ N, n0 <= N -> Fit N x := by
 obtain ⟨n, hn⟩ := h
 exact ⟨3518437208781 + (2 * n + 10), fun N hN => ⟨n, hn.wide (by omega), by omega⟩⟩
theorem Mq {α : Type} {P : Nat -> α -> Prop} : ∀ {l : List α}, (∀ x, x ∈ l -> ∃ n0, ∀ N, n0 <= N -> P N x) -> ∃ n0, ∀ N, n0 <= N -> ∀ x, x ∈ l -> P N x
 | [], _ => ⟨0, fun _ _ x hx => by cases hx⟩
 | a :: l, h => by
  obtain ⟨n, hn⟩ := h a (List.mem_cons_self ..)
  obtain ⟨m, hm⟩ := Mq fun x hx => h x (List.mem_cons_of_mem _ hx)
  refine ⟨n + m, fun N hN x hx => ?_⟩
  rcases List.mem_cons.1 hx with rfl | hx
  ·exact hn N (by omega)
  ·exact hm N (by omega) x hx
theorem Mr {l : List Clause} (h : l.length < 9223372036854775808 /\ ∀ c, c ∈ l -> Ij c) : ∃ n0, ∀ N, n0 <= N -> Nw N l := by
 obtain ⟨n, hn⟩ := Mq (P := P4) (l := l) (fun c hc => by
  obtain ⟨a, ha⟩ := Mp (h.2 c hc).1
  obtain ⟨b, hb⟩ := Mp (h.2 c hc).2
  exact ⟨a + b, fun N hN => ⟨ha N (by omega), hb N (by omega)⟩⟩)
 exact ⟨n + l.length + 1, fun N hN => ⟨by omega, h.1, hn N (by omega)⟩⟩
theorem QC {l : List Expr} (h : l.length < 9223372036854775808 /\ ∀ c, c ∈ l -> Ii c) : ∃ n0, ∀ N, n0 <= N -> RQ N l := by
 obtain ⟨n, hn⟩ := Mq (P := Fit) (l := l) (fun c hc => Mp (h.2 c hc))
 exact ⟨n + l.length + 1, fun N hN => ⟨by omega, h.1, hn N (by omega)⟩⟩
theorem QD {b : Be} (h : Ps b) : ∃ n0, ∀ N, n0 <= N -> MN N b := by
 obtain ⟨h1, h2, h3, h4⟩ := h
 obtain ⟨a, ha⟩ := Mr h1
 obtain ⟨b, hb⟩ := Mr h2
 obtain ⟨c, hc⟩ := Mr h3
 obtain ⟨d, hd⟩ := QC h4
 exact ⟨a + b + c + d, fun N hN => ⟨ha N (by omega), hb N (by omega), hc N (by omega), hd N (by omega)⟩⟩
def Dh (N : Nat) (x0 : Int) : Option Expr :=
 some ({ Op := 1, Value := x0, Kids := ([] : List Expr) } : Expr)
theorem Ds : Al Tryz.prog 191 := fun _ _ => by kernel_rfl
theorem DP (N : Nat) (w0 : World) (F0 : Mem) (hF : SH w0 F0) (x0 : Int) (r : Expr) (h : Dh N x0 = some r) :
  Calls Tryz.prog 191 ([(vi x0)] : List Value).toArray w0 (AJ w0 F0 fun F' v => ∃ (aq0_2 : SG) (nq0_2 : Nat), v = (.agg (Ag r aq0_2 nq0_2)) /\ LC r.Kids.length nq0_2 /\ SlA Ao F' aq0_2 r.Kids) := by
 have hs0 := Sj hF
 refine Go 5 Tryz.func191 ?_
 refine Sq (Rg [0] ?_)
 refine Al' 33 #[(vi 0), (vi 0), (.slice none ([] : List Expr).length 0)] hs0 (fun b21 w22 hs23 => ?_)
 refine Nss (Rg [0, 1, 2] ?_)
 refine Vs 2 ?_
 refine St0 #[(vi 1), (vi x0), (.slice none ([] : List Expr).length 0)] hs23 (fun w24 hs25 => ?_)
 refine Nt ?_
 refine Rt ?_
 obtain rfl := Aa h
 exact ⟨rfl, (.agg #[(vi 1), (vi x0), (.slice none ([] : List Expr).length 0)]), AC (l := [.cell 2 33]) (by kernel_rfl) (vs := [(.agg #[(vi 1), (vi x0), (.slice none ([] : List Expr).length 0)])]) ⟨b21, 0, rfl, Aj (t := 33) (g := true) (s := 3) (by kernel_rfl) hs25.at0 rfl (by decide), trivial⟩, (.agg #[(vi 1), (vi x0), (.slice none ([] : List Expr).length 0)]), F0, rfl, hs25.clear, ⟨none, 0, rfl, Sl, (.inl rfl)⟩⟩
def Fo (N : Nat) (x0 : Bool) : Option Expr :=
 ((Dh N 0).bind fun r31 => ((Dh N 0).bind fun r39 => some ({ Op := (bif x0 then 6 else 7), Value := 0, Kids := [r31, r39] } : Expr)))
theorem FP : Al Tryz.prog 188 := fun _ _ => by kernel_rfl
theorem Gp (N : Nat) (w0 : World) (F0 : Mem) (hF : SH w0 F0) (x0 : Bool) (r : Expr) (h : Fo N x0 = some r) :
  Calls Tryz.prog 188 ([(.bool x0)] : List Value).toArray w0 (AJ w0 F0 fun F' v => ∃ (aq0_2 : SG) (nq0_2 : Nat), v = (.agg (Ag r aq0_2 nq0_2)) /\ LC r.Kids.length nq0_2 /\ SlA Ao F' aq0_2 r.Kids) := by
 have hs0 := Sj hF
 refine Go 10 Tryz.func188 ?_
 refine Sq (Rg [0] ?_)
 refine Al' 33 #[(vi 0), (vi 0), (.slice none ([] : List Expr).length 0)] hs0 (fun b21 w22 hs23 => ?_)
 refine Nss (Rg [0] ?_)
 refine Vs 1 ?_
 refine Nss ?_
 refine Sq (Rg [0] ?_)
 refine Vs 1 ?_
 refine Nt ?_
 refine So (fun f w => ∃ (F1 : Mem), HS w0 F0 w F1 [(sb b21 #[(vi 0), (vi 0), (.slice none ([] : List Expr).length 0)] 33)] /\ Sh F0 F1 /\ FI f [] [(2, (pt b21 0)), (3, (vi (bif x0 then 6 else 7)))]) ?_ ?_
 ·refine Cp x0 (fun hb30 => ?_) (fun hb30 => ?_)
  ·refine Rg [0] ?_
   refine Vs 1 ?_
   refine Sd ?_
   exact .inl ⟨rfl, F0, hs23, (Si _), (fJ ⟨rfl, (congrArg (Value.int .i64) (Er hb30 rfl)), trivial⟩)⟩
  ·refine Sc ?_
   exact .inl ⟨rfl, F0, hs23, (Si _), (fJ ⟨rfl, (congrArg (Value.int .i64) (Es hb30 rfl)), trivial⟩)⟩
 ·rintro f w24 ⟨F1, hs25, le26, ⟨_, rfl⟩⟩
  refine Ac ?_
  refine Sq (Rg [0, 1, 2, 3, 4, 5] ?_)
  refine Vs 1 ?_
  obtain ⟨r31, hr32, h33⟩ := bind_some h
  refine Cl' Ds hs25 (DP N w24 F1 hs25.pers 0 _ hr32) ?_
  rintro _ F2 w35 hs36 le37 ⟨ar31_0_2, nr31_0_2, rfl, hbr31_0_2, hsr31_0_2⟩
  obtain ⟨r39, hr40, h41⟩ := bind_some h33
  refine Cl' Ds hs36 (DP N w35 F2 hs36.pers 0 _ hr40) ?_
  rintro _ F3 w43 hs44 le45 ⟨ar39_0_2, nr39_0_2, rfl, hbr39_0_2, hsr39_0_2⟩
  refine Bs 33 [(vi r31.Op), (vi r31.Value), (.slice ar31_0_2 r31.Kids.length nr31_0_2), (vi r39.Op), (vi r39.Value), (.slice ar39_0_2 r39.Kids.length nr39_0_2)] hs44 (fun b47 w48 hs49 => ?_)
  have hr51 : Aw Ao 33 F3 (some ⟨b47, 0, none⟩) 2 [r31, r39] (some b47, .cells ([(vi r31.Op), (vi r31.Value), (.slice ar31_0_2 r31.Kids.length nr31_0_2), (vi r39.Op), (vi r39.Value), (.slice ar39_0_2 r39.Kids.length nr39_0_2)] : List Value).toArray 33 (0, 0)) := SC ⟨(Bb ⟨ar31_0_2, nr31_0_2, rfl, hbr31_0_2, (Sk hsr31_0_2 le45)⟩), ⟨(Bb ⟨ar39_0_2, nr39_0_2, rfl, hbr39_0_2, hsr39_0_2⟩), rfl⟩⟩ (by simp)
  refine Vs 1 ?_
  refine St1 #[(vi (bif x0 then 6 else 7)), (vi 0), (.slice (some ⟨b47, 0, none⟩) [r31, r39].length 2)] hs49 (fun w52 hs53 => ?_)
  refine Nt ?_
  refine Rt ?_
  have hb57 := SB hr51
  obtain ⟨F4, hs54, le55, hs56⟩ := hs53.fr0 hr51
  obtain rfl := Aa h41
  exact ⟨rfl, (.agg #[(vi (bif x0 then 6 else 7)), (vi 0), (.slice (some ⟨b47, 0, none⟩) [r31, r39].length 2)]), AC (l := [.cell 2 33]) (by kernel_rfl) (vs := [(.agg #[(vi (bif x0 then 6 else 7)), (vi 0), (.slice (some ⟨b47, 0, none⟩) [r31, r39].length 2)])]) ⟨b21, 0, rfl, Aj (t := 33) (g := true) (s := 3) (by kernel_rfl) hs54.at0 rfl (by decide), trivial⟩, (.agg #[(vi (bif x0 then 6 else 7)), (vi 0), (.slice (some ⟨b47, 0, none⟩) [r31, r39].length 2)]), F4, rfl, hs54.clear, ⟨(some ⟨b47, 0, none⟩), 2, rfl, hb57, hs56⟩⟩
def Ft (N : Nat) (x0 : Expr) (x1 : Bool) : Option Bool :=
 (((Fo N x1).bind fun r34 => ((EJ N x0 r34).bind fun r42 => some r42)).bind fun j29 => some j29)
theorem FQ : Al Tryz.prog 187 := fun _ _ => by kernel_rfl
theorem Gq (N : Nat) (w0 : World) (F0 : Mem) (hF : SH w0 F0) (x0 : Expr) (a0_2 : SG) (n0_2 : Nat) (hb0_2 : LC x0.Kids.length n0_2) (hs0_2 : SlA Ao F0 a0_2 x0.Kids) (x1 : Bool) (r : Bool) (h : Ft N x0 x1 = some r) :
  Calls Tryz.prog 187 ([(.agg (Ag x0 a0_2 n0_2)), (.bool x1)] : List Value).toArray w0 (AJ w0 F0 fun F' v => v = (.bool r)) := by
 have hs0 := Sj hF
 refine Go 9 Tryz.func187 ?_
 refine Sq (Rg [0, 1] ?_)
 refine Bx' 33 (Ag x0 a0_2 n0_2) hs0 (fun b21 w22 hs23 => ?_)
 refine Vs 1 ?_
 refine Nss ?_
 obtain ⟨j29, hj32, h33⟩ := bind_some h
 refine RD 5 5 [(sb b21 (Ag x0 a0_2 n0_2) 33)] [] hs23 (fun f w => ∃ (F1 : Mem), HS w0 F0 w F1 [] /\ Sh F0 F1 /\ FI f [] [(4, (.bool j29))]) (fun wd24 hw25 => ?_) ?_
 ·refine Dl 0 (fun _ hq => (hq.1.2 0 _ _ rfl)) ?_
  refine Dv [1] ?_
  refine D1 2 ?_
  obtain ⟨r34, hr35, h36⟩ := bind_some hj32
  refine DCl FP hw25 (Gp N wd24 F0 hw25.pers x1 _ hr35) ?_
  rintro _ F2 w38 hs39 le40 ⟨ar34_0_2, nr34_0_2, rfl, hbr34_0_2, hsr34_0_2⟩
  refine D1 3 ?_
  obtain ⟨r42, hr43, h44⟩ := bind_some h36
  refine DCl CY hs39 (ED N w38 F2 hs39.pers x0 a0_2 n0_2 hb0_2 (Sk hs0_2 le40) r34 ar34_0_2 nr34_0_2 hbr34_0_2 hsr34_0_2 _ hr43) ?_
  rintro _ F3 w46 hs47 le48 rfl
  refine Dv [4] ?_
  obtain rfl := Aa h44
  exact SA (by kernel_rfl) ⟨F3, hs47.dr0, (le40.trans le48), fI⟩
 ·rintro f w26 ⟨F1, hs27, le28, ⟨_, rfl⟩⟩
  refine Ac ?_
  refine Rt ?_
  obtain rfl := Aa h33
  exact Re [(.bool j29)] hs27 rfl

def DJ (N : Nat) (x0 : Expr) (x1 : Int) : Option Bool :=
 some ((x0.Op == 1) && (x0.Value == x1))
theorem Ep : Al Tryz.prog 215 := fun _ _ => by kernel_rfl
theorem EW (N : Nat) (w0 : World) (F0 : Mem) (hF : SH w0 F0) (x0 : Expr) (a0_2 : SG) (n0_2 : Nat) (hb0_2 : LC x0.Kids.length n0_2) (hs0_2 : SlA Ao F0 a0_2 x0.Kids) (x1 : Int) (r : Bool) (h : DJ N x0 x1 = some r) :
  Calls Tryz.prog 215 ([(.agg (Ag x0 a0_2 n0_2)), (vi x1)] : List Value).toArray w0 (AJ w0 F0 fun F' v => v = (.bool r)) := by
 have hs0 := Sj hF
 refine Go 14 Tryz.func215 ?_
 refine Sq (Rg [0, 1] ?_)
 refine Bx' 33 (Ag x0 a0_2 n0_2) hs0 (fun b21 w22 hs23 => ?_)
 refine Vs 1 ?_
 refine Nss (Rg [0, 1, 2, 3, 4, 5, 6, 7, 8, 9] ?_)
 refine Sn (fun f w => ∃ (F1 : Mem), HS w0 F0 w F1 [] /\ Sh F0 F1 /\ FI f [] [(4, (.bool ((x0.Op == 1) && (x0.Value == x1))))]) ?_ ?_
 ·refine Vs 1 ?_
  refine Ld hs23.at0 ?_
  refine Vs 2 ?_
  refine Sm (x0.Op == 1) (fun hb29 => ?_) (fun hb29 => ?_)
  ·refine Vgs hb29 1 ?_
   refine Lg hb29 hs23.at0 ?_
   refine Vgs hb29 2 ?_
   refine Pk1 hb29 ?_
   refine Vs 1 ?_
   exact Sd ⟨rfl, F0, hs23.dr0, (Si _), (fJ ⟨(congrArg Value.bool (BL hb29 rfl)), trivial⟩)⟩
  ·refine Ss hb29 4 ?_
   refine Pk0 hb29 ?_
   refine Vs 1 ?_
   exact Sd ⟨rfl, F0, hs23.dr0, (Si _), (fJ ⟨(congrArg Value.bool (Dz hb29 rfl)), trivial⟩)⟩
 ·rintro f w24 ⟨F1, hs25, le26, ⟨_, rfl⟩⟩
  refine Ac ?_
  refine Rt ?_
  obtain rfl := Aa h
  exact Re [(.bool ((x0.Op == 1) && (x0.Value == x1)))] hs25 rfl
def Gz (N : Nat) (x0 : Expr) (x1 : Expr) (x2 : Expr) : Option Expr :=
 (bif (x0.Op == 8) then ((DJ N x1 0).bind fun r36 => (bif r36 then some x2 else ((DJ N x2 0).bind fun r49 => (bif r49 then some x1 else some x0)))) else none)
theorem IZ : Al Tryz.prog 192 := fun _ _ => by kernel_rfl
theorem JB (N : Nat) (w0 : World) (F0 : Mem) (hF : SH w0 F0) (x0 : Expr) (a0_2 : SG) (n0_2 : Nat) (hb0_2 : LC x0.Kids.length n0_2) (hs0_2 : SlA Ao F0 a0_2 x0.Kids) (x1 : Expr) (a1_2 : SG) (n1_2 : Nat) (hb1_2 : LC x1.Kids.length n1_2) (hs1_2 : SlA Ao F0 a1_2 x1.Kids) (x2 : Expr) (a2_2 : SG) (n2_2 : Nat) (hb2_2 : LC x2.Kids.length n2_2) (hs2_2 : SlA Ao F0 a2_2 x2.Kids) (r : Expr) (h : Gz N x0 x1 x2 = some r) :
  Calls Tryz.prog 192 ([(.agg (Ag x0 a0_2 n0_2)), (.agg (Ag x1 a1_2 n1_2)), (.agg (Ag x2 a2_2 n2_2))] : List Value).toArray w0 (AJ w0 F0 fun F' v => ∃ (aq0_2 : SG) (nq0_2 : Nat), v = (.agg (Ag r aq0_2 nq0_2)) /\ LC r.Kids.length nq0_2 /\ SlA Ao F' aq0_2 r.Kids) := by
 have hs0 := Sj hF
 refine Go 49 Tryz.func192 ?_
 refine Sq (Rg [0, 1, 2, 3] ?_)
 refine Bx' 33 (Ag x0 a0_2 n0_2) hs0 (fun b21 w22 hs23 => ?_)
 refine Bx' 33 (Ag x1 a1_2 n1_2) hs23 (fun b24 w25 hs26 => ?_)
 refine Bx' 33 (Ag x2 a2_2 n2_2) hs26 (fun b27 w28 hs29 => ?_)
 refine Al' 33 #[(vi 0), (vi 0), (.slice none ([] : List Expr).length 0)] hs29 (fun b30 w31 hs32 => ?_)
 refine Nss ?_
 refine Sq (Rg [0, 1] ?_)
 refine Vs 1 ?_
 refine Ld hs32.at3 ?_
 refine Nt ?_
 refine Bk ?_
 refine Sq (Rg [0, 1] ?_)
 refine Vs 2 ?_
 refine Nt ?_
 refine Cd h (fun hb33 h34 => ?_) (fun hb33 h35 => ?_)
 ·refine Bk ?_
  refine Sq (Rg [0, 1, 2] ?_)
  refine Ld hs32.at2 ?_
  obtain ⟨r36, hr37, h38⟩ := bind_some h34
  refine Cl' Ep hs32 (EW N w31 F0 hs32.pers x1 a1_2 n1_2 hb1_2 hs1_2 0 _ hr37) ?_
  rintro _ F1 w40 hs41 le42 rfl
  refine Vs 1 ?_
  refine Nt ?_
  refine Cd h38 (fun hb44 h45 => ?_) (fun hb44 h46 => ?_)
  ·refine Sq (Rg [0, 1] ?_)
   refine Ld hs41.at1 ?_
   refine St0 (Ag x2 a2_2 n2_2) hs41 (fun w47 hs48 => ?_)
   refine Nt ?_
   refine Rt ?_
   refine Ai ?_
   refine Ai ?_
   refine Ae ?_
   obtain rfl := Aa h45
   exact ⟨rfl, (.agg (Ag x2 a2_2 n2_2)), AC (l := [.cell 6 33]) (by kernel_rfl) (vs := [(.agg (Ag x2 a2_2 n2_2))]) ⟨b30, 0, rfl, Aj (t := 33) (g := true) (s := 3) (by kernel_rfl) hs48.at0 rfl (by decide), trivial⟩, (.agg (Ag x2 a2_2 n2_2)), F1, rfl, hs48.clear, ⟨a2_2, n2_2, rfl, hb2_2, (Sk hs2_2 le42)⟩⟩
  ·refine Sq (Rg [0, 1, 2] ?_)
   refine Ld hs41.at1 ?_
   obtain ⟨r49, hr50, h51⟩ := bind_some h46
   refine Cl' Ep hs41 (EW N w40 F1 hs41.pers x2 a2_2 n2_2 hb2_2 (Sk hs2_2 le42) 0 _ hr50) ?_
   rintro _ F2 w53 hs54 le55 rfl
   refine Vs 1 ?_
   refine Nt ?_
   refine Cd h51 (fun hb57 h58 => ?_) (fun hb57 h59 => ?_)
   ·refine Sq (Rg [0, 1] ?_)
    refine Ld hs54.at2 ?_
    refine St0 (Ag x1 a1_2 n1_2) hs54 (fun w60 hs61 => ?_)
    refine Nt ?_
    refine Rt ?_
    refine Ai ?_
    refine Ai ?_
    refine Ae ?_
    obtain rfl := Aa h58
    exact ⟨rfl, (.agg (Ag x1 a1_2 n1_2)), AC (l := [.cell 6 33]) (by kernel_rfl) (vs := [(.agg (Ag x1 a1_2 n1_2))]) ⟨b30, 0, rfl, Aj (t := 33) (g := true) (s := 3) (by kernel_rfl) hs61.at0 rfl (by decide), trivial⟩, (.agg (Ag x1 a1_2 n1_2)), F2, rfl, hs61.clear, ⟨a1_2, n1_2, rfl, hb1_2, (Sk hs1_2 (le42.trans le55))⟩⟩
   ·refine Sc ?_
    refine Aq ?_
    refine Aq ?_
    refine Ac ?_
    refine Sq (Rg [0, 1] ?_)
    refine Ld hs54.at3 ?_
    refine St0 (Ag x0 a0_2 n0_2) hs54 (fun w62 hs63 => ?_)
    refine Nt ?_
    refine Rt ?_
    obtain rfl := Aa h59
    exact ⟨rfl, (.agg (Ag x0 a0_2 n0_2)), AC (l := [.cell 6 33]) (by kernel_rfl) (vs := [(.agg (Ag x0 a0_2 n0_2))]) ⟨b30, 0, rfl, Aj (t := 33) (g := true) (s := 3) (by kernel_rfl) hs63.at0 rfl (by decide), trivial⟩, (.agg (Ag x0 a0_2 n0_2)), F2, rfl, hs63.clear, ⟨a0_2, n0_2, rfl, hb0_2, (Sk hs0_2 (le42.trans le55))⟩⟩
 ·cases h35
def HI (N : Nat) (x0 : Expr) : Option Expr :=
 (bif ((x0.Kids.length : Int) == 0) then some x0 else ((idx x0.Kids 0).bind fun x32 => (bif (x0.Op == 3) then none else ((idx x0.Kids 1).bind fun x54 => (bif (bif (x0.Op == 6) then (x0.Op == 6) else (x0.Op == 7)) then ((bif ((x32.Op == 1) && (x54.Op == 1)) then some true else ((EJ N x32 x54).bind fun r106 => some r106)).bind fun j93 => (bif j93 then (bif (x0.Op == 6) then ((EJ N x32 x54).bind fun r120 => (bif r120 then ((Fo N true).bind fun r131 => some r131) else (bif (x0.Op == 7) then none else none))) else (bif (x0.Op == 7) then none else none)) else some x0)) else (bif (bif (x0.Op == 4) then (x0.Op == 4) else (x0.Op == 5)) then none else (bif (bif (x0.Op == 8) then (x0.Op == 8) else (bif (x0.Op == 9) then (x0.Op == 9) else (x0.Op == 10))) then (((mk0 0 14).bind fun r206 => ((E0 N x0 r206).bind fun r220 => some r220)).bind fun j196 => (bif (((x32.Op == 1) && (x54.Op == 1)) && (decide (j196 >= 0))) then ((Dh N j196).bind fun r242 => some r242) else ((Gz N x0 x32 x54).bind fun r252 => some r252))) else (bif (x0.Op == 11) then ((Ft N x32 true).bind fun r265 => (bif r265 then some x54 else ((Ft N x32 false).bind fun r278 => (bif r278 then ((idx x0.Kids 2).bind fun x289 => some x289) else (((idx x0.Kids 2).bind fun x310 => ((EJ N x54 x310).bind fun r316 => some r316)).bind fun j302 => (bif j302 then some x54 else some x0)))))) else none))))))))
theorem Ju : Al Tryz.prog 148 := fun _ _ => by kernel_rfl
theorem J6 (N : Nat) (w0 : World) (F0 : Mem) (hF : SH w0 F0) (x0 : Expr) (a0_2 : SG) (n0_2 : Nat) (hb0_2 : LC x0.Kids.length n0_2) (hs0_2 : SlA Ao F0 a0_2 x0.Kids) (r : Expr) (h : HI N x0 = some r) :
  Calls Tryz.prog 148 ([(.agg (Ag x0 a0_2 n0_2))] : List Value).toArray w0 (AJ w0 F0 fun F' v => ∃ (aq0_2 : SG) (nq0_2 : Nat), v = (.agg (Ag r aq0_2 nq0_2)) /\ LC r.Kids.length nq0_2 /\ SlA Ao F' aq0_2 r.Kids) := by
 have hs0 := Sj hF
 refine Go 130 Tryz.func148 ?_
 refine Sq (Rg [0, 1] ?_)
 refine Bx' 33 (Ag x0 a0_2 n0_2) hs0 (fun b21 w22 hs23 => ?_)
 refine Al' 33 #[(vi 0), (vi 0), (.slice none ([] : List Expr).length 0)] hs23 (fun b24 w25 hs26 => ?_)
 refine Nss ?_
 refine Sq (Rg [0, 1, 2, 3] ?_)
 refine Vs 1 ?_
 refine Ld hs26.at1 ?_
 refine Vs 2 ?_
 refine Nt ?_
 refine Cd h (fun hb27 h28 => ?_) (fun hb27 h29 => ?_)
 ·refine Sq (Rg [0, 1] ?_)
  refine Ld hs26.at1 ?_
  refine St0 (Ag x0 a0_2 n0_2) hs26 (fun w30 hs31 => ?_)
  refine Nt ?_
  refine Rt ?_
  refine Ae ?_
  obtain rfl := Aa h28
  exact ⟨rfl, (.agg (Ag x0 a0_2 n0_2)), AC (l := [.cell 2 33]) (by kernel_rfl) (vs := [(.agg (Ag x0 a0_2 n0_2))]) ⟨b24, 0, rfl, Aj (t := 33) (g := true) (s := 3) (by kernel_rfl) hs31.at0 rfl (by decide), trivial⟩, (.agg (Ag x0 a0_2 n0_2)), F0, rfl, hs31.clear, ⟨a0_2, n0_2, rfl, hb0_2, hs0_2⟩⟩
 ·refine Sc ?_
  refine Ac ?_
  refine Sq (Rg [0, 1, 2, 3, 4, 5] ?_)
  refine Vs 1 ?_
  refine Ld hs26.at1 ?_
  obtain ⟨x32, hx33, h35⟩ := bind_some h29
  obtain ⟨hi34, hx33'⟩ := Ap hx33
  obtain ⟨b36, o37, C38, E39, fz40, rfl, hF42, hE43⟩ := Su hs0_2 hx33'
  obtain ⟨ae44_2, ne44_2, hc45, hbe44_2, hse44_2⟩ := (Az (hE43 _ _ hx33'))
  refine Ix hi34 ?_
  refine Lx 0 (hs26.pers _ _ hF42) hc45 ?_
  refine Al' 33 #[(vi 0), (vi 0), (.slice none ([] : List Expr).length 0)] hs26 (fun b46 w47 hs48 => ?_)
  refine St0 (Ag x32 ae44_2 ne44_2) hs48 (fun w49 hs50 => ?_)
  refine Nss ?_
  refine Sq (Rg [0, 1, 2] ?_)
  refine Vs 1 ?_
  refine Ld hs50.at2 ?_
  refine Vs 1 ?_
  refine Nt ?_
  refine Cd h35 (fun hb51 h52 => ?_) (fun hb51 h53 => ?_)
  ·cases h52
  ·refine Sc ?_
   refine Ac ?_
   refine Sq (Rg [0, 1, 2, 3, 4, 5] ?_)
   refine Vs 1 ?_
   refine Ld hs50.at2 ?_
   obtain ⟨x54, hx55, h57⟩ := bind_some h53
   obtain ⟨hi56, hx55'⟩ := Ap hx55
   obtain ⟨ae58_2, ne58_2, hc59, hbe58_2, hse58_2⟩ := (Az (hE43 _ _ hx55'))
   refine Ix hi56 ?_
   refine Lx 0 (hs50.pers _ _ hF42) hc59 ?_
   refine Al' 33 #[(vi 0), (vi 0), (.slice none ([] : List Expr).length 0)] hs50 (fun b60 w61 hs62 => ?_)
   refine St0 (Ag x54 ae58_2 ne58_2) hs62 (fun w63 hs64 => ?_)
   refine Nss (Rg [0, 1, 2, 3, 4, 5, 6, 7, 8] ?_)
   refine Sn (fun f w => ∃ (F1 : Mem), HS w0 F0 w F1 [(sb b60 (Ag x54 ae58_2 ne58_2) 33), (sb b46 (Ag x32 ae44_2 ne44_2) 33), (sb b24 #[(vi 0), (vi 0), (.slice none ([] : List Expr).length 0)] 33), (sb b21 (Ag x0 (some ⟨b36, o37, none⟩) n0_2) 33)] /\ Sh F0 F1 /\ FI f [] [(1, (pt b21 0)), (2, (pt b24 0)), (3, (pt b46 0)), (4, (pt b60 0)), (5, (.bool ((x32.Op == 1) && (x54.Op == 1))))]) ?_ ?_
   ·refine Vs 1 ?_
    refine Ld hs64.at1 ?_
    refine Vs 2 ?_
    refine Sm (x32.Op == 1) (fun hb74 => ?_) (fun hb74 => ?_)
    ·refine Vgs hb74 1 ?_
     refine Lg hb74 hs64.at0 ?_
     refine Vgs hb74 1 ?_
     refine Pk1 hb74 ?_
     refine Vs 1 ?_
     exact Sd ⟨rfl, F0, hs64, (Si _), (fJ ⟨rfl, rfl, rfl, rfl, (congrArg Value.bool (BL hb74 rfl)), trivial⟩)⟩
    ·refine Ss hb74 3 ?_
     refine Pk0 hb74 ?_
     refine Vs 1 ?_
     exact Sd ⟨rfl, F0, hs64, (Si _), (fJ ⟨rfl, rfl, rfl, rfl, (congrArg Value.bool (Dz hb74 rfl)), trivial⟩)⟩
   ·rintro f w65 ⟨F1, hs66, le67, ⟨_, rfl⟩⟩
    refine Ac ?_
    refine Sq ?_
    refine Sq (Rg [0, 1] ?_)
    refine Vs 1 ?_
    refine Ld hs66.at3 ?_
    refine Nt ?_
    refine Bk ?_
    refine Sq ?_
    refine Sq (Rg [0, 1] ?_)
    refine Vs 2 ?_
    refine Nt ?_
    refine So (fun f w => ∃ (F2 : Mem), HS w0 F0 w F2 [(sb b60 (Ag x54 ae58_2 ne58_2) 33), (sb b46 (Ag x32 ae44_2 ne44_2) 33), (sb b24 #[(vi 0), (vi 0), (.slice none ([] : List Expr).length 0)] 33), (sb b21 (Ag x0 (some ⟨b36, o37, none⟩) n0_2) 33)] /\ Sh F1 F2 /\ FI f [] [(1, (pt b21 0)), (2, (pt b24 0)), (3, (pt b46 0)), (4, (pt b60 0)), (5, (.bool ((x32.Op == 1) && (x54.Op == 1)))), (49, (vi x0.Op)), (50, (.bool (bif (x0.Op == 6) then (x0.Op == 6) else (x0.Op == 7))))]) ?_ ?_
    ·refine Cp (x0.Op == 6) (fun hb86 => ?_) (fun hb86 => ?_)
     ·refine Sc ?_
      exact .inl ⟨rfl, F1, hs66, (Si _), (fJ ⟨rfl, rfl, rfl, rfl, rfl, rfl, (congrArg Value.bool (Er hb86 rfl)), trivial⟩)⟩
     ·refine Rg [0, 1] ?_
      refine Vs 2 ?_
      refine Sd ?_
      exact .inl ⟨rfl, F1, hs66, (Si _), (fJ ⟨rfl, rfl, rfl, rfl, rfl, rfl, (congrArg Value.bool (Es hb86 rfl)), trivial⟩)⟩
    ·rintro f w75 ⟨F2, hs76, le77, ⟨_, rfl⟩⟩
     refine Ac ?_
     refine Cd h57 (fun hb87 h88 => ?_) (fun hb87 h89 => ?_)
     ·refine Sq (Rg [0, 1, 2, 3, 4, 5] ?_)
      obtain ⟨j93, hj101, h102⟩ := bind_some h88
      refine Sn (fun f w => ∃ (F3 : Mem), HS w0 F0 w F3 [(sb b60 (Ag x54 ae58_2 ne58_2) 33), (sb b46 (Ag x32 ae44_2 ne44_2) 33), (sb b24 #[(vi 0), (vi 0), (.slice none ([] : List Expr).length 0)] 33), (sb b21 (Ag x0 (some ⟨b36, o37, none⟩) n0_2) 33)] /\ Sh F2 F3 /\ FI f [] [(1, (pt b21 0)), (2, (pt b24 0)), (3, (pt b46 0)), (4, (pt b60 0)), (5, (.bool ((x32.Op == 1) && (x54.Op == 1)))), (58, (.bool j93))]) ?_ ?_
      ·refine Vs 2 ?_
       refine Sp hj101 (fun hb103 h104 => ?_) (fun hb103 h105 => ?_)
       ·refine Ss hb103 3 ?_
        refine Pk1 hb103 ?_
        obtain rfl := Aa h104
        exact Sd ⟨rfl, F2, hs76, (Si _), fI⟩
       ·refine Lg hb103 hs76.at1 ?_
        refine Lg hb103 hs76.at0 ?_
        obtain ⟨r106, hr107, h108⟩ := bind_some h105
        refine Cg hb103 CY hs76 (ED N w75 F2 hs76.pers x32 ae44_2 ne44_2 hbe44_2 (Sk hse44_2 (le67.trans le77)) x54 ae58_2 ne58_2 hbe58_2 (Sk hse58_2 (le67.trans le77)) _ hr107) ?_
        rintro _ F4 w110 hs111 le112 rfl
        refine Pk0 hb103 ?_
        obtain rfl := Aa h108
        exact Sd ⟨rfl, F4, hs111, le112, fI⟩
      ·rintro f w90 ⟨F3, hs91, le92, ⟨_, rfl⟩⟩
       refine Ac ?_
       refine Cd h102 (fun hb114 h115 => ?_) (fun hb114 h116 => ?_)
       ·refine Sq (Rg [0, 1, 2, 3, 4, 5, 6, 7, 8, 9, 10, 11, 12, 13, 14, 15, 16, 17, 18, 19, 20, 21, 22, 23, 24] ?_)
        refine Vs 1 ?_
        refine Ld hs91.at3 ?_
        refine Vs 2 ?_
        refine Sp h115 (fun hb117 h118 => ?_) (fun hb117 h119 => ?_)
        ·refine Lg hb117 hs91.at1 ?_
         refine Lg hb117 hs91.at0 ?_
         obtain ⟨r120, hr121, h122⟩ := bind_some h118
         refine Cg hb117 CY hs91 (ED N w90 F3 hs91.pers x32 ae44_2 ne44_2 hbe44_2 (Sk hse44_2 ((le67.trans le77).trans le92)) x54 ae58_2 ne58_2 hbe58_2 (Sk hse58_2 ((le67.trans le77).trans le92)) _ hr121) ?_
         rintro _ F5 w124 hs125 le126 rfl
         refine Pk1 hb117 ?_
         refine Vs 1 ?_
         refine Sp h122 (fun hb128 h129 => ?_) (fun hb128 h130 => ?_)
         ·refine Ss hb128 4 ?_
          refine Su' 1 ?_
          refine Ss hb128 2 ?_
          refine Su' 5 ?_
          refine Ss hb128 1 ?_
          refine Pk1 hb128 ?_
          obtain ⟨r131, hr132, h133⟩ := bind_some h129
          refine Cl' FP hs125 (Gp N w124 F5 hs125.pers true _ hr132) ?_
          rintro _ F6 w135 hs136 le137 ⟨ar131_0_2, nr131_0_2, rfl, hbr131_0_2, hsr131_0_2⟩
          refine St2 (Ag r131 ar131_0_2 nr131_0_2) hs136 (fun w139 hs140 => ?_)
          refine Nt ?_
          refine Rt ?_
          refine Ai ?_
          refine Ae ?_
          obtain rfl := Aa h133
          exact ⟨rfl, (.agg (Ag r131 ar131_0_2 nr131_0_2)), AC (l := [.cell 2 33]) (by kernel_rfl) (vs := [(.agg (Ag r131 ar131_0_2 nr131_0_2))]) ⟨b24, 0, rfl, Aj (t := 33) (g := true) (s := 3) (by kernel_rfl) hs140.at2 rfl (by decide), trivial⟩, (.agg (Ag r131 ar131_0_2 nr131_0_2)), F6, rfl, hs140.clear, ⟨ar131_0_2, nr131_0_2, rfl, hbr131_0_2, hsr131_0_2⟩⟩
         ·refine Vgs hb128 1 ?_
          refine Lg hb128 hs125.at3 ?_
          refine Vgs hb128 2 ?_
          refine Sp h130 (fun hb141 h142 => ?_) (fun hb141 h143 => ?_)
          ·cases h142
          ·cases h143
        ·refine Ss hb117 3 ?_
         refine Pk0 hb117 ?_
         refine Vs 1 ?_
         refine Vg 68 0 8 false 67 rfl (fa 33 1 0 0 1 b21 0 0) ?_
         refine Vg 69 3 8 false 67 rfl (ld 3 68 b21 0 false 1 (vi x0.Op) hs91.at3) ?_
         refine Vg 70 4 8 false 67 rfl (Ot (t := 3) (t' := 3) (x := (.tmp 69)) (y := (.const (vi 7))) (k := .i64) (a := x0.Op) (b := 7) rfl rfl) ?_
         refine Vg 71 4 8 false 67 rfl (mv 70 (.bool (x0.Op == 7))) ?_
         refine Sp h119 (fun hb144 h145 => ?_) (fun hb144 h146 => ?_)
         ·cases h145
         ·cases h146
       ·refine Sc ?_
        refine Aq ?_
        refine Ac ?_
        refine Sq (Rg [0, 1] ?_)
        refine Ld hs91.at3 ?_
        refine St2 (Ag x0 (some ⟨b36, o37, none⟩) n0_2) hs91 (fun w147 hs148 => ?_)
        refine Nt ?_
        refine Rt ?_
        obtain rfl := Aa h116
        exact ⟨rfl, (.agg (Ag x0 (some ⟨b36, o37, none⟩) n0_2)), AC (l := [.cell 2 33]) (by kernel_rfl) (vs := [(.agg (Ag x0 (some ⟨b36, o37, none⟩) n0_2))]) ⟨b24, 0, rfl, Aj (t := 33) (g := true) (s := 3) (by kernel_rfl) hs148.at2 rfl (by decide), trivial⟩, (.agg (Ag x0 (some ⟨b36, o37, none⟩) n0_2)), F3, rfl, hs148.clear, ⟨(some ⟨b36, o37, none⟩), n0_2, rfl, hb0_2, (Sk hs0_2 ((le67.trans le77).trans le92))⟩⟩
     ·refine Sq ?_
      refine Sq (Rg [0, 1] ?_)
      refine Vs 2 ?_
      refine Nt ?_
      refine So (fun f w => ∃ (F7 : Mem), HS w0 F0 w F7 [(sb b60 (Ag x54 ae58_2 ne58_2) 33), (sb b46 (Ag x32 ae44_2 ne44_2) 33), (sb b24 #[(vi 0), (vi 0), (.slice none ([] : List Expr).length 0)] 33), (sb b21 (Ag x0 (some ⟨b36, o37, none⟩) n0_2) 33)] /\ Sh F2 F7 /\ FI f [] [(1, (pt b21 0)), (2, (pt b24 0)), (3, (pt b46 0)), (4, (pt b60 0)), (5, (.bool ((x32.Op == 1) && (x54.Op == 1)))), (49, (vi x0.Op)), (83, (.bool (bif (x0.Op == 4) then (x0.Op == 4) else (x0.Op == 5))))]) ?_ ?_
      ·refine Cp (x0.Op == 4) (fun hb160 => ?_) (fun hb160 => ?_)
       ·refine Sc ?_
        exact .inl ⟨rfl, F2, hs76, (Si _), (fJ ⟨rfl, rfl, rfl, rfl, rfl, rfl, (congrArg Value.bool (Er hb160 rfl)), trivial⟩)⟩
       ·refine Rg [0, 1] ?_
        refine Vs 2 ?_
        refine Sd ?_
        exact .inl ⟨rfl, F2, hs76, (Si _), (fJ ⟨rfl, rfl, rfl, rfl, rfl, rfl, (congrArg Value.bool (Es hb160 rfl)), trivial⟩)⟩
      ·rintro f w149 ⟨F7, hs150, le151, ⟨_, rfl⟩⟩
       refine Ac ?_
       refine Cd h89 (fun hb161 h162 => ?_) (fun hb161 h163 => ?_)
       ·cases h162
       ·refine Sq ?_
        refine Sq (Rg [0, 1] ?_)
        refine Vs 2 ?_
        refine Nt ?_
        refine So (fun f w => ∃ (F8 : Mem), HS w0 F0 w F8 [(sb b60 (Ag x54 ae58_2 ne58_2) 33), (sb b46 (Ag x32 ae44_2 ne44_2) 33), (sb b24 #[(vi 0), (vi 0), (.slice none ([] : List Expr).length 0)] 33), (sb b21 (Ag x0 (some ⟨b36, o37, none⟩) n0_2) 33)] /\ Sh F7 F8 /\ FI f [] [(1, (pt b21 0)), (2, (pt b24 0)), (3, (pt b46 0)), (4, (pt b60 0)), (5, (.bool ((x32.Op == 1) && (x54.Op == 1)))), (49, (vi x0.Op)), (90, (.bool (bif (x0.Op == 8) then (x0.Op == 8) else (bif (x0.Op == 9) then (x0.Op == 9) else (x0.Op == 10)))))]) ?_ ?_
        ·refine Cp (x0.Op == 8) (fun hb175 => ?_) (fun hb175 => ?_)
         ·refine Sc ?_
          exact .inl ⟨rfl, F7, hs150, (Si _), (fJ ⟨rfl, rfl, rfl, rfl, rfl, rfl, (congrArg Value.bool (Er hb175 rfl)), trivial⟩)⟩
         ·refine Sq (Rg [0, 1] ?_)
          refine Vs 2 ?_
          refine Nt ?_
          refine So (fun f w => ∃ (F9 : Mem), HS w0 F0 w F9 [(sb b60 (Ag x54 ae58_2 ne58_2) 33), (sb b46 (Ag x32 ae44_2 ne44_2) 33), (sb b24 #[(vi 0), (vi 0), (.slice none ([] : List Expr).length 0)] 33), (sb b21 (Ag x0 (some ⟨b36, o37, none⟩) n0_2) 33)] /\ Sh F7 F9 /\ FI f [] [(1, (pt b21 0)), (2, (pt b24 0)), (3, (pt b46 0)), (4, (pt b60 0)), (5, (.bool ((x32.Op == 1) && (x54.Op == 1)))), (49, (vi x0.Op)), (90, (.bool (bif (x0.Op == 9) then (x0.Op == 9) else (x0.Op == 10))))]) ?_ ?_
          ·refine Cp (x0.Op == 9) (fun hb187 => ?_) (fun hb187 => ?_)
           ·refine Sc ?_
            exact .inl ⟨rfl, F7, hs150, (Si _), (fJ ⟨rfl, rfl, rfl, rfl, rfl, rfl, (congrArg Value.bool (Er hb187 rfl)), trivial⟩)⟩
           ·refine Rg [0, 1] ?_
            refine Vs 2 ?_
            refine Sd ?_
            exact .inl ⟨rfl, F7, hs150, (Si _), (fJ ⟨rfl, rfl, rfl, rfl, rfl, rfl, (congrArg Value.bool (Es hb187 rfl)), trivial⟩)⟩
          ·rintro f w176 ⟨F9, hs177, le178, ⟨_, rfl⟩⟩
           exact .inl ⟨rfl, F9, hs177, le178, (fJ ⟨rfl, rfl, rfl, rfl, rfl, rfl, (congrArg Value.bool (Es hb175 rfl)), trivial⟩)⟩
        ·rintro f w164 ⟨F8, hs165, le166, ⟨_, rfl⟩⟩
         refine Ac ?_
         refine Cd h163 (fun hb188 h189 => ?_) (fun hb188 h190 => ?_)
         ·refine Sq ?_
          refine Sq ?_
          obtain ⟨j196, hj204, h205⟩ := bind_some h189
          refine RD 4 4 [(sb b60 (Ag x54 ae58_2 ne58_2) 33), (sb b46 (Ag x32 ae44_2 ne44_2) 33), (sb b24 #[(vi 0), (vi 0), (.slice none ([] : List Expr).length 0)] 33), (sb b21 (Ag x0 (some ⟨b36, o37, none⟩) n0_2) 33)] [] hs165 (fun f w => ∃ (F10 : Mem), HS w0 F0 w F10 [(sb b60 (Ag x54 ae58_2 ne58_2) 33), (sb b46 (Ag x32 ae44_2 ne44_2) 33), (sb b24 #[(vi 0), (vi 0), (.slice none ([] : List Expr).length 0)] 33), (sb b21 (Ag x0 (some ⟨b36, o37, none⟩) n0_2) 33)] /\ Sh F8 F10 /\ FI f [] [(1, (pt b21 0)), (2, (pt b24 0)), (3, (pt b46 0)), (4, (pt b60 0)), (5, (.bool ((x32.Op == 1) && (x54.Op == 1)))), (6, (vi j196))]) (fun wd191 hw192 => ?_) ?_
          ·refine Dl 0 (fun _ hq => (hq.1.2 3 _ _ rfl)) ?_
           refine D1 1 ?_
           obtain ⟨r206, hm207, h208⟩ := bind_some hj204
           refine AA.makeSlice (l' := [true, true, false, false]) (zd := true) (by kernel_rfl) (by kernel_rfl) (dst := (some 95)) (ty := 47) (g := none) (by kernel_rfl) rfl (x := (.const (vi 14))) (y := (.const (vi 14))) (t := 47) (by_ := 8) (z := (vi 0)) (T := Ck) (E := 3) rfl rfl (by kernel_rfl) (by decide) (by kernel_rfl) (z0 := 0) (fun _ => rfl) (by decide) hw192 hm207 (Si _) (by simp) (fun e => by cases e) (fun b209 n210 C211 w212 (hs213 : HS w0 F0 w212 F8 [(some b209, .cells C211 3 (0, 0)), (sb b60 (Ag x54 ae58_2 ne58_2) 33), (sb b46 (Ag x32 ae44_2 ne44_2) 33), (sb b24 #[(vi 0), (vi 0), (.slice none ([] : List Expr).length 0)] 33), (sb b21 (Ag x0 (some ⟨b36, o37, none⟩) n0_2) 33)]) hr214 => ?_)
           refine D1 2 ?_
           have hb219 := SB hr214
           obtain ⟨F11, hs216, le217, hs218⟩ := hs213.fr0 hr214
           obtain ⟨r220, hr221, h222⟩ := bind_some h208
           refine DCl Dr hs216 (Fz N w212 F11 hs216.pers x0 (some ⟨b36, o37, none⟩) n0_2 hb0_2 (Sk hs0_2 ((((le67.trans le77).trans le151).trans le166).trans le217)) r206 (some ⟨b209, 0, none⟩) n210 hb219 hs218 _ hr221) ?_
           rintro _ F12 w224 hs225 le226 rfl
           refine Dv [3] ?_
           obtain rfl := Aa h222
           exact SA (by kernel_rfl) ⟨F12, hs225, (le217.trans le226), fI⟩
          ·rintro f w193 ⟨F10, hs194, le195, ⟨_, rfl⟩⟩
           refine Ac ?_
           refine Sq (Rg [0, 1, 2, 3, 4] ?_)
           refine Sn (fun f w => ∃ (F13 : Mem), HS w0 F0 w F13 [(sb b60 (Ag x54 ae58_2 ne58_2) 33), (sb b46 (Ag x32 ae44_2 ne44_2) 33), (sb b24 #[(vi 0), (vi 0), (.slice none ([] : List Expr).length 0)] 33), (sb b21 (Ag x0 (some ⟨b36, o37, none⟩) n0_2) 33)] /\ Sh F10 F13 /\ FI f [] [(1, (pt b21 0)), (2, (pt b24 0)), (3, (pt b46 0)), (4, (pt b60 0)), (6, (vi j196)), (101, (.bool (((x32.Op == 1) && (x54.Op == 1)) && (decide (j196 >= 0)))))]) ?_ ?_
           ·refine Vs 2 ?_
            refine Sm ((x32.Op == 1) && (x54.Op == 1)) (fun hb238 => ?_) (fun hb238 => ?_)
            ·refine Vgs hb238 2 ?_
             refine Pk1 hb238 ?_
             exact Sd ⟨rfl, F10, hs194, (Si _), (fJ ⟨rfl, rfl, rfl, rfl, rfl, (congrArg Value.bool (BL hb238 rfl)), trivial⟩)⟩
            ·refine Ss hb238 2 ?_
             refine Pk0 hb238 ?_
             exact Sd ⟨rfl, F10, hs194, (Si _), (fJ ⟨rfl, rfl, rfl, rfl, rfl, (congrArg Value.bool (Dz hb238 rfl)), trivial⟩)⟩
           ·rintro f w228 ⟨F13, hs229, le230, ⟨_, rfl⟩⟩
            refine Ac ?_
            refine Cd h205 (fun hb239 h240 => ?_) (fun hb239 h241 => ?_)
            ·refine Sq (Rg [0, 1, 2] ?_)
             refine Vs 1 ?_
             obtain ⟨r242, hr243, h244⟩ := bind_some h240
             refine Cl' Ds hs229 (DP N w228 F13 hs229.pers j196 _ hr243) ?_
             rintro _ F14 w246 hs247 le248 ⟨ar242_0_2, nr242_0_2, rfl, hbr242_0_2, hsr242_0_2⟩
             refine St2 (Ag r242 ar242_0_2 nr242_0_2) hs247 (fun w250 hs251 => ?_)
             refine Nt ?_
             refine Rt ?_
             refine Ae ?_
             refine Ai ?_
             refine Ae ?_
             obtain rfl := Aa h244
             exact ⟨rfl, (.agg (Ag r242 ar242_0_2 nr242_0_2)), AC (l := [.cell 2 33]) (by kernel_rfl) (vs := [(.agg (Ag r242 ar242_0_2 nr242_0_2))]) ⟨b24, 0, rfl, Aj (t := 33) (g := true) (s := 3) (by kernel_rfl) hs251.at2 rfl (by decide), trivial⟩, (.agg (Ag r242 ar242_0_2 nr242_0_2)), F14, rfl, hs251.clear, ⟨ar242_0_2, nr242_0_2, rfl, hbr242_0_2, hsr242_0_2⟩⟩
            ·refine Sc ?_
             refine Ac ?_
             refine Sq (Rg [0, 1, 2, 3, 4] ?_)
             refine Ld hs229.at3 ?_
             refine Ld hs229.at1 ?_
             refine Ld hs229.at0 ?_
             obtain ⟨r252, hr253, h254⟩ := bind_some h241
             refine Cl' IZ hs229 (JB N w228 F13 hs229.pers x0 (some ⟨b36, o37, none⟩) n0_2 hb0_2 (Sk hs0_2 (((((le67.trans le77).trans le151).trans le166).trans le195).trans le230)) x32 ae44_2 ne44_2 hbe44_2 (Sk hse44_2 (((((le67.trans le77).trans le151).trans le166).trans le195).trans le230)) x54 ae58_2 ne58_2 hbe58_2 (Sk hse58_2 (((((le67.trans le77).trans le151).trans le166).trans le195).trans le230)) _ hr253) ?_
             rintro _ F15 w256 hs257 le258 ⟨ar252_0_2, nr252_0_2, rfl, hbr252_0_2, hsr252_0_2⟩
             refine St2 (Ag r252 ar252_0_2 nr252_0_2) hs257 (fun w260 hs261 => ?_)
             refine Nt ?_
             refine Rt ?_
             refine Ai ?_
             refine Ae ?_
             obtain rfl := Aa h254
             exact ⟨rfl, (.agg (Ag r252 ar252_0_2 nr252_0_2)), AC (l := [.cell 2 33]) (by kernel_rfl) (vs := [(.agg (Ag r252 ar252_0_2 nr252_0_2))]) ⟨b24, 0, rfl, Aj (t := 33) (g := true) (s := 3) (by kernel_rfl) hs261.at2 rfl (by decide), trivial⟩, (.agg (Ag r252 ar252_0_2 nr252_0_2)), F15, rfl, hs261.clear, ⟨ar252_0_2, nr252_0_2, rfl, hbr252_0_2, hsr252_0_2⟩⟩
         ·refine Sq (Rg [0, 1] ?_)
          refine Vs 2 ?_
          refine Nt ?_
          refine Cd h190 (fun hb262 h263 => ?_) (fun hb262 h264 => ?_)
          ·refine Bk ?_
           refine Sq (Rg [0, 1, 2] ?_)
           refine Ld hs165.at1 ?_
           obtain ⟨r265, hr266, h267⟩ := bind_some h263
           refine Cl' FQ hs165 (Gq N w164 F8 hs165.pers x32 ae44_2 ne44_2 hbe44_2 (Sk hse44_2 (((le67.trans le77).trans le151).trans le166)) true _ hr266) ?_
           rintro _ F16 w269 hs270 le271 rfl
           refine Vs 1 ?_
           refine Nt ?_
           refine Cd h267 (fun hb273 h274 => ?_) (fun hb273 h275 => ?_)
           ·refine Sq (Rg [0, 1] ?_)
            refine Ld hs270.at0 ?_
            refine St2 (Ag x54 ae58_2 ne58_2) hs270 (fun w276 hs277 => ?_)
            refine Nt ?_
            refine Rt ?_
            refine Ai ?_
            refine Ai ?_
            refine Ae ?_
            obtain rfl := Aa h274
            exact ⟨rfl, (.agg (Ag x54 ae58_2 ne58_2)), AC (l := [.cell 2 33]) (by kernel_rfl) (vs := [(.agg (Ag x54 ae58_2 ne58_2))]) ⟨b24, 0, rfl, Aj (t := 33) (g := true) (s := 3) (by kernel_rfl) hs277.at2 rfl (by decide), trivial⟩, (.agg (Ag x54 ae58_2 ne58_2)), F16, rfl, hs277.clear, ⟨ae58_2, ne58_2, rfl, hbe58_2, (Sk hse58_2 ((((le67.trans le77).trans le151).trans le166).trans le271))⟩⟩
           ·refine Sq (Rg [0, 1, 2] ?_)
            refine Ld hs270.at1 ?_
            obtain ⟨r278, hr279, h280⟩ := bind_some h275
            refine Cl' FQ hs270 (Gq N w269 F16 hs270.pers x32 ae44_2 ne44_2 hbe44_2 (Sk hse44_2 ((((le67.trans le77).trans le151).trans le166).trans le271)) false _ hr279) ?_
            rintro _ F17 w282 hs283 le284 rfl
            refine Vs 1 ?_
            refine Nt ?_
            refine Cd h280 (fun hb286 h287 => ?_) (fun hb286 h288 => ?_)
            ·refine Sq (Rg [0, 1, 2, 3, 4] ?_)
             refine Vs 1 ?_
             refine Ld hs283.at3 ?_
             obtain ⟨x289, hx290, h292⟩ := bind_some h287
             obtain ⟨hi291, hx290'⟩ := Ap hx290
             obtain ⟨ae293_2, ne293_2, hc294, hbe293_2, hse293_2⟩ := (Az (hE43 _ _ hx290'))
             refine Ix hi291 ?_
             refine Lx 0 (hs283.pers _ _ ((((((le67.trans le77).trans le151).trans le166).trans le271).trans le284) _ _ hF42)) hc294 ?_
             refine St2 (Ag x289 ae293_2 ne293_2) hs283 (fun w295 hs296 => ?_)
             refine Nt ?_
             refine Rt ?_
             refine Ai ?_
             refine Ai ?_
             refine Ae ?_
             obtain rfl := Aa h292
             exact ⟨rfl, (.agg (Ag x289 ae293_2 ne293_2)), AC (l := [.cell 2 33]) (by kernel_rfl) (vs := [(.agg (Ag x289 ae293_2 ne293_2))]) ⟨b24, 0, rfl, Aj (t := 33) (g := true) (s := 3) (by kernel_rfl) hs296.at2 rfl (by decide), trivial⟩, (.agg (Ag x289 ae293_2 ne293_2)), F17, rfl, hs296.clear, ⟨ae293_2, ne293_2, rfl, hbe293_2, (Sk hse293_2 (((((le67.trans le77).trans le151).trans le166).trans le271).trans le284))⟩⟩
            ·refine Sq ?_
             obtain ⟨j302, hj308, h309⟩ := bind_some h288
             refine RD 7 7 [(sb b60 (Ag x54 ae58_2 ne58_2) 33), (sb b46 (Ag x32 ae44_2 ne44_2) 33), (sb b24 #[(vi 0), (vi 0), (.slice none ([] : List Expr).length 0)] 33), (sb b21 (Ag x0 (some ⟨b36, o37, none⟩) n0_2) 33)] [] hs283 (fun f w => ∃ (F18 : Mem), HS w0 F0 w F18 [(sb b60 (Ag x54 ae58_2 ne58_2) 33), (sb b24 #[(vi 0), (vi 0), (.slice none ([] : List Expr).length 0)] 33), (sb b21 (Ag x0 (some ⟨b36, o37, none⟩) n0_2) 33)] /\ Sh F17 F18 /\ FI f [] [(1, (pt b21 0)), (2, (pt b24 0)), (4, (pt b60 0)), (121, (.bool j302))]) (fun wd297 hw298 => ?_) ?_
             ·refine Dl 0 (fun _ hq => (hq.1.2 0 _ _ rfl)) ?_
              refine Dv [1] ?_
              refine Dl 2 (fun _ hq => (hq.1.2 3 _ _ rfl)) ?_
              obtain ⟨x310, hx311, h313⟩ := bind_some hj308
              obtain ⟨hi312, hx311'⟩ := Ap hx311
              obtain ⟨ae314_2, ne314_2, hc315, hbe314_2, hse314_2⟩ := (Az (hE43 _ _ hx311'))
              refine Di 3 hi312 ?_
              refine Dx 4 0 (fun _ hq => hq.1.1 _ _ ((((((le67.trans le77).trans le151).trans le166).trans le271).trans le284) _ _ hF42)) hc315 ?_
              refine D1 5 ?_
              obtain ⟨r316, hr317, h318⟩ := bind_some h313
              refine DCl CY hw298 (ED N wd297 F17 hw298.pers x54 ae58_2 ne58_2 hbe58_2 (Sk hse58_2 (((((le67.trans le77).trans le151).trans le166).trans le271).trans le284)) x310 ae314_2 ne314_2 hbe314_2 (Sk hse314_2 (((((le67.trans le77).trans le151).trans le166).trans le271).trans le284)) _ hr317) ?_
              rintro _ F19 w320 hs321 le322 rfl
              refine Dv [6] ?_
              obtain rfl := Aa h318
              exact SA (by kernel_rfl) ⟨F19, hs321.dr1, le322, fI⟩
             ·rintro f w299 ⟨F18, hs300, le301, ⟨_, rfl⟩⟩
              refine Ac ?_
              refine Cd h309 (fun hb324 h325 => ?_) (fun hb324 h326 => ?_)
              ·refine Sq (Rg [0, 1] ?_)
               refine Ld hs300.at0 ?_
               refine St1 (Ag x54 ae58_2 ne58_2) hs300 (fun w327 hs328 => ?_)
               refine Nt ?_
               refine Rt ?_
               refine Ai ?_
               refine Ai ?_
               refine Ae ?_
               obtain rfl := Aa h325
               exact ⟨rfl, (.agg (Ag x54 ae58_2 ne58_2)), AC (l := [.cell 2 33]) (by kernel_rfl) (vs := [(.agg (Ag x54 ae58_2 ne58_2))]) ⟨b24, 0, rfl, Aj (t := 33) (g := true) (s := 3) (by kernel_rfl) hs328.at1 rfl (by decide), trivial⟩, (.agg (Ag x54 ae58_2 ne58_2)), F18, rfl, hs328.clear, ⟨ae58_2, ne58_2, rfl, hbe58_2, (Sk hse58_2 ((((((le67.trans le77).trans le151).trans le166).trans le271).trans le284).trans le301))⟩⟩
              ·refine Sc ?_
               refine Aq ?_
               refine Aq ?_
               refine Ac ?_
               refine Sq (Rg [0, 1] ?_)
               refine Ld hs300.at2 ?_
               refine St1 (Ag x0 (some ⟨b36, o37, none⟩) n0_2) hs300 (fun w329 hs330 => ?_)
               refine Nt ?_
               refine Rt ?_
               obtain rfl := Aa h326
               exact ⟨rfl, (.agg (Ag x0 (some ⟨b36, o37, none⟩) n0_2)), AC (l := [.cell 2 33]) (by kernel_rfl) (vs := [(.agg (Ag x0 (some ⟨b36, o37, none⟩) n0_2))]) ⟨b24, 0, rfl, Aj (t := 33) (g := true) (s := 3) (by kernel_rfl) hs330.at1 rfl (by decide), trivial⟩, (.agg (Ag x0 (some ⟨b36, o37, none⟩) n0_2)), F18, rfl, hs330.clear, ⟨(some ⟨b36, o37, none⟩), n0_2, rfl, hb0_2, (Sk hs0_2 ((((((le67.trans le77).trans le151).trans le166).trans le271).trans le284).trans le301))⟩⟩
          ·cases h264






def upto (a b : Int) : List Int := (List.range (b + 1 - a).toNat).map fun k : Nat => a + (k : Int)
def Rc : List QG -> List (List Int)
 | [] => [[]]
 | s :: d => (upto s.Lo s.Hi).flatMap fun v => (Rc d).map (v :: ·)
def box : List QG -> List Int -> Prop
 | [], [] => True
 | s :: d, v :: f => (s.Lo <= v /\ v <= s.Hi) /\ box d f
 | _, _ => False
def Ig (N : Nat) (x0 : Be) (x1 : (List Int)) : Option (Int × Int) :=
 ((JM N x0 x1).bind fun r24 => (bif (r24 != 0) then some (0, r24) else ((JN N x0.Points x1).bind fun r35 => (bif (decide (r35 < 0)) then some (0, 70) else ((idx x0.Points r35).bind fun x46 => ((E0 N x46.Then x1).bind fun r60 => some (r60, 0)))))))
theorem J1 : Al Tryz.prog 41 := fun _ _ => by kernel_rfl
theorem K6 (N : Nat) (w0 : World) (F0 : Mem) (hF : SH w0 F0) (x0 : Be) (a0_0 : SG) (n0_0 : Nat) (hb0_0 : LC x0.Points.length n0_0) (hs0_0 : SlA As F0 a0_0 x0.Points) (a0_1 : SG) (n0_1 : Nat) (hb0_1 : LC x0.Multipliers.length n0_1) (hs0_1 : SlA As F0 a0_1 x0.Multipliers) (a0_2 : SG) (n0_2 : Nat) (hb0_2 : LC x0.Penalties.length n0_2) (hs0_2 : SlA As F0 a0_2 x0.Penalties) (a0_3 : SG) (n0_3 : Nat) (hb0_3 : LC x0.Repeats.length n0_3) (hs0_3 : SlA Ao F0 a0_3 x0.Repeats) (x1 : (List Int)) (a1_0 : SG) (n1_0 : Nat) (hb1_0 : LC x1.length n1_0) (hs1_0 : SlA Ck F0 a1_0 x1) (r : (Int × Int)) (h : Ig N x0 x1 = some r) :
  Calls Tryz.prog 41 ([(.agg (AU x0 a0_0 n0_0 a0_1 n0_1 a0_2 n0_2 a0_3 n0_3)), (.slice a1_0 x1.length n1_0)] : List Value).toArray w0 (AJ w0 F0 fun F' v => v = (.tuple #[(vi r.1), (vi r.2)])) := by
 have hs0 := Sj hF
 refine Go 28 Tryz.func41 ?_
 refine Sq (Rg [0, 1, 2] ?_)
 refine Bx' 26 (AU x0 a0_0 n0_0 a0_1 n0_1 a0_2 n0_2 a0_3 n0_3) hs0 (fun b21 w22 hs23 => ?_)
 refine Vs 2 ?_
 refine Nss ?_
 refine Sq (Rg [0, 1, 2, 3] ?_)
 refine Ld hs23.at0 ?_
 refine Vs 1 ?_
 obtain ⟨r24, hr25, h26⟩ := bind_some h
 refine Cl' KT hs23 (LA N w22 F0 hs23.pers x0 a0_0 n0_0 hb0_0 hs0_0 a0_1 n0_1 hb0_1 hs0_1 a0_2 n0_2 hb0_2 hs0_2 a0_3 n0_3 hb0_3 hs0_3 x1 a1_0 n1_0 hb1_0 hs1_0 _ hr25) ?_
 rintro _ F1 w28 hs29 le30 rfl
 refine Vs 1 ?_
 refine Nss (Rg [0, 1] ?_)
 refine Vs 2 ?_
 refine Nt ?_
 refine Cd h26 (fun hb32 h33 => ?_) (fun hb32 h34 => ?_)
 ·refine Sq (Rg [0, 1, 2] ?_)
  refine Vs 3 ?_
  refine Nt ?_
  refine Rt ?_
  refine Ae ?_
  obtain rfl := Aa h33
  exact Re [(vi 0), (vi r24)] hs29 rfl
 ·refine Sc ?_
  refine Ac ?_
  refine Sq (Rg [0, 1, 2, 3, 4] ?_)
  refine Vs 1 ?_
  refine Ld hs29.at0 ?_
  refine Vs 1 ?_
  obtain ⟨r35, hr36, h37⟩ := bind_some h34
  refine Cl' KU hs29 (LB N w28 F1 hs29.pers x0.Points a0_0 n0_0 hb0_0 (Sk hs0_0 le30) x1 a1_0 n1_0 hb1_0 (Sk hs1_0 le30) _ hr36) ?_
  rintro _ F2 w39 hs40 le41 rfl
  refine Vs 1 ?_
  refine Nss ?_
  refine Sq (Rg [0, 1] ?_)
  refine Vs 2 ?_
  refine Nt ?_
  refine Cd h37 (fun hb43 h44 => ?_) (fun hb43 h45 => ?_)
  ·refine Sq (Rg [0, 1] ?_)
   refine Vs 2 ?_
   refine Nt ?_
   refine Rt ?_
   refine Ae ?_
   obtain rfl := Aa h44
   exact Re [(vi 0), (vi 70)] hs40 rfl
  ·refine Sc ?_
   refine Ac ?_
   refine Sq (Rg [0, 1, 2, 3, 4, 5, 6, 7, 8, 9] ?_)
   refine Vs 1 ?_
   refine Ld hs40.at0 ?_
   refine Vs 1 ?_
   obtain ⟨x46, hx47, h49⟩ := bind_some h45
   obtain ⟨hi48, hx47'⟩ := Ap hx47
   obtain ⟨b50, o51, C52, E53, fz54, rfl, hF56, hE57⟩ := Su (Sk hs0_0 (le30.trans le41)) hx47'
   obtain ⟨ae58_2, ne58_2, ae58_5, ne58_5, hc59, hbe58_2, hse58_2, hbe58_5, hse58_5⟩ := hE57 _ _ hx47'
   refine Ix hi48 ?_
   refine Vs 1 ?_
   refine Lx 3 (hs40.pers _ _ hF56) hc59 ?_
   refine Vs 1 ?_
   obtain ⟨r60, hr61, h62⟩ := bind_some h49
   refine Cl' Dr hs40 (Fz N w39 F2 hs40.pers x46.Then ae58_5 ne58_5 hbe58_5 hse58_5 x1 a1_0 n1_0 hb1_0 (Sk hs1_0 (le30.trans le41)) _ hr61) ?_
   rintro _ F3 w64 hs65 le66 rfl
   refine Vs 2 ?_
   refine Nt ?_
   refine Rt ?_
   obtain rfl := Aa h62
   exact Re [(vi r60), (vi 0)] hs65 rfl









section
variable {N : Nat} {f : List Int}
theorem QZ {a b c d : Nat} : decide ((max (max (max (a : Int) (b : Int)) (c : Int)) (d : Int)) > 64) = decide (a > 64 \/ b > 64 \/ c > 64 \/ d > 64) := by
 congr 1; rw [eq_iff_iff]; omega
theorem KQ {α : Type} (l : List α) (p : α -> Bool) (n0 : Nat) {body : Int × Int -> Option (Bi (Int × Int) (Int × Int))} (hs : n0 + l.length < 1000000)
  (hb : ∀ (n : Nat) (i : Nat) (h : i < l.length), body ((n : Int), (i : Int)) = bif p l[i] then some (.ret (62, W64 ((n : Int) + 1))) else some (.next (W64 ((n : Int) + 1), W64 ((i : Int) + 1)))) (he : ∀ n, body (n, (l.length : Int)) = some (.done (n, (l.length : Int))))
  (hN : l.length < N) :
  A0 body N ((n0 : Int), 0) = some (bif l.any p then .ret (62, (n0 : Int) + (l.findIdx p : Int) + 1) else .done (((n0 + l.length : Nat) : Int), (l.length : Int))) := by
 obtain ⟨o, ho, rfl⟩ := IL (body := body) l.length (fun i s => s = (((n0 + i : Nat) : Int), (i : Int)) /\ ∀ k (h : k < l.length), k < i -> p l[k] = false) (fun o => o = bif l.any p then .ret (62, (n0 : Int) + (l.findIdx p : Int) + 1) else .done (((n0 + l.length : Nat) : Int), (l.length : Int))) (by
  rintro i s hi ⟨rfl, hk⟩
  by_cases h : i < l.length
  ·cases e : p l[i] with
   | false =>
    refine .inl ⟨_, by rw [hb _ i h, e, cond_false, Ci (by omega), Ci (by omega)]; rfl, ⟨rfl, fun k hk' hki => ?_⟩, h⟩
    by_cases hki' : k = i
    ·subst hki'; exact e
    ·exact hk k hk' (by omega)
   | true =>
    refine .inr ⟨_, by rw [hb _ i h, e, cond_true, Ci (by omega)], fun _ h => (by cases h), ?_⟩
    have h1 : l.any p = true := List.any_eq_true.2 ⟨_, List.getElem_mem h, e⟩
    have h2 : l.findIdx p = i := by
     rw [List.findIdx_eq h]
     exact ⟨e, fun k hk' => hk k (by omega) hk'⟩
    rw [h1, cond_true, h2]
    congr 2
  ·have : i = l.length := by omega
   subst this
   refine .inr ⟨_, he _, fun _ h => (by cases h), ?_⟩
   have h1 : l.any p = false := by
    rw [List.any_eq_false]
    intro x hx
    obtain ⟨k, hk', rfl⟩ := List.getElem_of_mem hx
    rw [hk k hk' hk']; simp
   rw [h1, cond_false]) l.length N 0 ((n0 : Int), 0) (by omega) ⟨rfl, fun k h hk => by omega⟩ hN
 exact ho
theorem Qd (hN : 1000 < N) {b : Be} (h : MN N b) : Fa N b = some (chk b) := by
 unfold Fa chk
 rw [QZ]
 by_cases hl : b.Points.length > 64 \/ b.Multipliers.length > 64 \/ b.Penalties.length > 64 \/ b.Repeats.length > 64
 ·rw [decide_eq_true hl, cond_true, if_pos hl]
 ·rw [decide_eq_false hl, cond_false, if_neg hl]
  have hl' : b.Points.length <= 64 /\ b.Multipliers.length <= 64 /\ b.Penalties.length <= 64 /\ b.Repeats.length <= 64 := by omega
  rw [Pm hN hl'.1 hl'.2.1 hl'.2.2.1, Option.bind_some]
  generalize hal : b.Points ++ b.Multipliers ++ b.Penalties = al
  have hlen : al.length <= 192 := by rw [<- hal]; simp; omega
  have hfit : ∀ c, c ∈ al -> P4 N c := by
   intro c hc
   rw [<- hal] at hc
   simp only [List.mem_append] at hc
   rcases hc with (hc | hc) | hc
   ·exact h.p.c c hc
   ·exact h.m.c c hc
   ·exact h.e.c c hc
  have h1 := KQ (N := N) al (fun c => !B2 c) 0 (body := CK N b al) (by omega) (fun n i hi => by
   unfold CK
   simp only
   rw [H0 hi, cond_true, CE hi, Option.bind_some, Lp (hfit _ (List.getElem_mem hi)), Option.bind_some]) (fun n => by unfold CK; simp only; rw [H1, cond_false]) (by omega)
  rw [show ((0 : Int), (0 : Int)) = (((0 : Nat) : Int), (0 : Int)) from rfl, h1]
  cases ha : al.any fun c => !B2 c with
  | true => simp [Bi.k]
  | false =>
   have h2 := KQ (N := N) b.Repeats (fun e => !FE e 1) (0 + al.length) (body := CJ N b al (((0 + al.length : Nat) : Int), (al.length : Int))) (by omega) (fun n i hi => by
    unfold CJ
    simp only
    rw [H0 hi, cond_true, CE hi, Option.bind_some, QT (h.r.c _ (List.getElem_mem hi)) (by decide), Option.bind_some]) (fun n => by unfold CJ; simp only; rw [H1, cond_false]) (by omega)
   simp only [Bi.k, cond_false, Option.bind_some, Bool.false_eq_true, if_false]
   rw [h2]
   cases b.Repeats.any fun e => !FE e 1 with
   | true => simp
   | false => simp
theorem Ra {α : Type} {l : List α} {p : α -> Bool} : l.findIdx p < l.length ↔ l.any p = true := by
 rw [List.findIdx_lt_length]; simp
theorem Pj (hN : 1000 < N) {b : Be} (h : MN N b) : Fg N b = some (chk b) := by
 unfold Fg chk
 by_cases hl : b.Points.length > 64 \/ b.Multipliers.length > 64 \/ b.Penalties.length > 64 \/ b.Repeats.length > 64
 ·rw [if_pos hl]
  have : (decide ((b.Points.length : Int) > 64) || (decide ((b.Multipliers.length : Int) > 64) || (decide ((b.Penalties.length : Int) > 64) || decide ((b.Repeats.length : Int) > 64)))) = true := by
   simp; omega
  rw [this, cond_true]
 ·rw [if_neg hl]
  have hl' : b.Points.length <= 64 /\ b.Multipliers.length <= 64 /\ b.Penalties.length <= 64 /\ b.Repeats.length <= 64 := by omega
  have : (decide ((b.Points.length : Int) > 64) || (decide ((b.Multipliers.length : Int) > 64) || (decide ((b.Penalties.length : Int) > 64) || decide ((b.Repeats.length : Int) > 64)))) = false := by
   simp; omega
  rw [this, cond_false]
  obtain ⟨m, rfl⟩ : ∃ m, N = m + 4 := ⟨N - 4, by omega⟩
  have st : ∀ (n k : Nat) (x : List Clause), n <= 1000 -> x.length <= 64 -> Nw (m + 4) x -> k < 3 -> [b.Points, b.Multipliers, b.Penalties][k]? = some x ->
    Cf (m + 4) b ((n : Int), (k : Int)) = some (bif x.any (fun c => !B2 c) then .ret (62, (n : Int) + (x.findIdx (fun c => !B2 c) : Int)) else .next (((n + x.length : Nat) : Int), ((k + 1 : Nat) : Int))) := by
   intro n k x hn hx hfit hk hg
   unfold Cf
   simp only
   rw [show ([b.Points, b.Multipliers, b.Penalties].length : Int) = ((3 : Nat) : Int) from rfl, H0 hk, cond_true, IP, hg, Option.bind_some, NG hfit, Option.bind_some, Option.bind_some]
   have hle : x.findIdx (fun c => !B2 c) <= x.length := List.findIdx_le_length
   rw [<- Int.natCast_add, Ki (by omega)]
   cases ha : x.any fun c => !B2 c with
   | true =>
    rw [decide_eq_true (by have := Ra.2 ha; omega)]; rfl
   | false =>
    have he : x.findIdx (fun c => !B2 c) = x.length := by
     rcases Nat.lt_or_ge (x.findIdx fun c => !B2 c) x.length with h | h
     ·rw [Ra] at h; rw [ha] at h; cases h
     ·omega
    rw [decide_eq_false (by omega), cond_false, cond_false, Ci (by omega), he]
  have hany : (b.Points ++ b.Multipliers ++ b.Penalties).any (fun c => !B2 c) = (b.Points.any (fun c => !B2 c) || b.Multipliers.any (fun c => !B2 c) || b.Penalties.any (fun c => !B2 c)) := by
   rw [List.any_append, List.any_append]
  have s1 := st 1 0 b.Points (by omega) hl'.1 h.p (by omega) rfl
  have s2 := st (1 + b.Points.length) 1 b.Multipliers (by omega) hl'.2.1 h.m (by omega) rfl
  have s3 := st (1 + b.Points.length + b.Multipliers.length) 2 b.Penalties (by omega) hl'.2.2.1 h.e (by omega) rfl
  have hfi : (b.Points ++ b.Multipliers ++ b.Penalties).findIdx (fun c => !B2 c) = if b.Points.any (fun c => !B2 c) then b.Points.findIdx (fun c => !B2 c) else if b.Multipliers.any (fun c => !B2 c) then b.Points.length + b.Multipliers.findIdx (fun c => !B2 c) else b.Points.length + b.Multipliers.length + b.Penalties.findIdx (fun c => !B2 c) := by
   rw [List.append_assoc, List.findIdx_append, List.findIdx_append]
   simp only [Ra]
   split
   ·rfl
   ·split <;> omega
  rw [hany, hfi]
  rw [A0, show ((1 : Int), (0 : Int)) = (((1 : Nat) : Int), ((0 : Nat) : Int)) from rfl, s1]
  cases hp : b.Points.any fun c => !B2 c with
  | true => simp [Bi.k]; omega
  | false =>
   simp only [cond_false]
   rw [A0, s2]
   cases hm : b.Multipliers.any fun c => !B2 c with
   | true => simp [Bi.k]; omega
   | false =>
    simp only [cond_false]
    rw [A0, s3]
    cases hq : b.Penalties.any fun c => !B2 c with
    | true => simp [Bi.k]; omega
    | false =>
     simp only [cond_false]
     rw [A0]
     have s4 : ∀ n, Cf (m + 4) b (n, ((2 + 1 : Nat) : Int)) = some (.done (n, ((2 + 1 : Nat) : Int))) := fun n => by
      unfold Cf; simp only
      rw [show ([b.Points, b.Multipliers, b.Penalties].length : Int) = ((2 + 1 : Nat) : Int) from rfl, H1, cond_false]
     rw [s4]
     simp only [Bi.k, Option.bind_some, Bool.or_self, Bool.false_eq_true, if_false]
     rw [Gc b.Repeats (fun e => !FE e 1) (fun i => (62, ((1 + b.Points.length + b.Multipliers.length + b.Penalties.length + i : Nat) : Int))) (fun i hi => by
      unfold Dn
      rw [H0 hi, cond_true, CE hi, Option.bind_some, Kp (h.r.c _ (List.getElem_mem hi)), Option.bind_some]
      simp only
      rw [<- Int.natCast_add, Ki (by omega)]) (by unfold Dn; rw [H1, cond_false]) h.r.n h.r.w]
     cases b.Repeats.any fun e => !FE e 1 with
     | true => simp; omega
     | false => simp
noncomputable def vld (b : Be) : Bool := (chk b).1 == 0
theorem P8 (hN : 1000 < N) {b : Be} (h : MN N b) : DY N b = some (vld b) := by unfold DY vld; rw [Qd hN h]; rfl
theorem Ph (hN : 1000 < N) {b : Be} (h : MN N b) : Fd N b = some (vld b) := by unfold Fd vld; rw [Pj hN h]; rfl
theorem Ol {b : Be} : vld b = true ↔ Mb b.Points = true /\ Mb b.Multipliers = true /\ Mb b.Penalties = true /\ b.Repeats.length <= 64 /\ ∀ e, e ∈ b.Repeats -> FE e 1 = true := by
 unfold vld chk Mb
 by_cases hl : b.Points.length > 64 \/ b.Multipliers.length > 64 \/ b.Penalties.length > 64 \/ b.Repeats.length > 64
 ·rw [if_pos hl]; simp; intro _ _ _ _ _ _; omega
 ·rw [if_neg hl]
  have hl' : b.Points.length <= 64 /\ b.Multipliers.length <= 64 /\ b.Penalties.length <= 64 /\ b.Repeats.length <= 64 := by omega
  simp only [hl', decide_true, Bool.true_and]
  have hany : (b.Points ++ b.Multipliers ++ b.Penalties).any (fun c => !B2 c) = !(b.Points.all B2 && b.Multipliers.all B2 && b.Penalties.all B2) := by
   rw [List.any_append, List.any_append, Kg, Kg, Kg]
   cases b.Points.any _ <;> cases b.Multipliers.any _ <;> cases b.Penalties.any _ <;> rfl
  have hr : (b.Repeats.any fun e => !FE e 1) = !(b.Repeats.all fun e => FE e 1) := by rw [Kg]; simp
  rw [hany, hr, <- List.all_eq_true (l := b.Repeats)]
  cases b.Points.all B2 <;> cases b.Multipliers.all B2 <;> cases b.Penalties.all B2 <;> cases (b.Repeats.all fun e => FE e 1) <;> simp
end
























def Oe (sR94 : Expr -> Option Expr) : Prop := ∀ (w0 : World) (F0 : Mem) (hF : SH w0 F0) (x0 : Expr) (a0_2 : SG) (n0_2 : Nat) (hb0_2 : LC x0.Kids.length n0_2) (hs0_2 : SlA Ao F0 a0_2 x0.Kids) (r : Expr), sR94 x0 = some r -> Calls Tryz.prog 94 ([(.agg #[(.int .i64 x0.Op), (.int .i64 x0.Value), (.slice a0_2 x0.Kids.length n0_2)])] : List Value).toArray w0 (AJ w0 F0 fun F' v => ∃ (aq0_2 : SG) (nq0_2 : Nat), v = (.agg #[(.int .i64 r.Op), (.int .i64 r.Value), (.slice aq0_2 r.Kids.length nq0_2)]) /\ LC r.Kids.length nq0_2 /\ SlA Ao F' aq0_2 r.Kids)
theorem Eo : Al Tryz.prog 94 := fun _ _ => by kernel_rfl
def Eg (N : Nat) (sR94 : Expr -> Option Expr) (x0 : Expr) : (Int × List Expr) -> Option (Bi Expr (Int × List Expr)) := fun s37 =>
 (bif (decide (s37.1 < (x0.Kids.length : Int))) then ((idx x0.Kids s37.1).bind fun x63 => (((sR94 x63).bind fun r96 => ((Gh s37.2 [r96]).bind fun r109 => some r109)).bind fun j87 => some (.next ((W64 (s37.1 + 1)), j87)))) else some (.done (s37.1, s37.2)))
def EI (N : Nat) (sR94 : Expr -> Option Expr) (x0 : Expr) : Option Expr :=
 ((A0 (Eg N sR94 x0) N (0, ([] : List Expr))).bind fun o => o.k (fun r => some r) (fun s47 => ((HI N ({ Op := x0.Op, Value := x0.Value, Kids := s47.2 } : Expr)).bind fun r127 => some r127)))
theorem HA (N : Nat) (sR94 : Expr -> Option Expr) (hsR94 : Oe sR94) (w0 : World) (F0 : Mem) (hF : SH w0 F0) (x0 : Expr) (a0_2 : SG) (n0_2 : Nat) (hb0_2 : LC x0.Kids.length n0_2) (hs0_2 : SlA Ao F0 a0_2 x0.Kids) (r : Expr) (h : EI N sR94 x0 = some r) :
  Calls Tryz.prog 94 ([(.agg (Ag x0 a0_2 n0_2))] : List Value).toArray w0 (AJ w0 F0 fun F' v => ∃ (aq0_2 : SG) (nq0_2 : Nat), v = (.agg (Ag r aq0_2 nq0_2)) /\ LC r.Kids.length nq0_2 /\ SlA Ao F' aq0_2 r.Kids) := by
 have hs0 := Sj hF
 refine Go 28 Tryz.func94 ?_
 refine Sq (Rg [0, 1] ?_)
 refine Bx' 33 (Ag x0 a0_2 n0_2) hs0 (fun b21 w22 hs23 => ?_)
 refine Al' 33 #[(vi 0), (vi 0), (.slice none ([] : List Expr).length 0)] hs23 (fun b24 w25 hs26 => ?_)
 refine Nss (Rg [0, 1, 2, 3, 4, 5, 6] ?_)
 refine Vs 1 ?_
 refine Ld hs26.at1 ?_
 refine Vs 1 ?_
 refine Ld hs26.at1 ?_
 refine Vs 1 ?_
 refine Al' 33 #[(vi 0), (vi 0), (.slice none ([] : List Expr).length 0)] hs26 (fun b27 w28 hs29 => ?_)
 refine St0 #[(vi x0.Op), (vi x0.Value), (.slice none ([] : List Expr).length 0)] hs29 (fun w30 hs31 => ?_)
 refine Nss ?_
 refine Sq (Rg [0, 1, 2, 3] ?_)
 refine Vs 1 ?_
 refine Ld hs31.at2 ?_
 refine Vs 2 ?_
 refine Nt ?_
 have hs32 := hs31.dr2.dummy (oc #[] 0)
 obtain ⟨o34, ho35, h36⟩ := bind_some h
 refine So (fun f w => ∃ (s47 : (Int × List Expr)) (F2 : Mem) (as47_1 : SG) (ns47_1 : Nat) (es47_1 : Option Nat × Obj), o34 = .done s47 /\ HS w0 F0 w F2 [es47_1, (sb b27 #[(vi x0.Op), (vi x0.Value), (.slice as47_1 s47.2.length ns47_1)] 33), (sb b24 #[(vi 0), (vi 0), (.slice none ([] : List Expr).length 0)] 33)] /\ Sh F0 F2 /\ FI f [] [(2, (pt b24 0)), (3, (pt b27 0))] /\ Aw Ao 33 F2 as47_1 ns47_1 s47.2 es47_1) ?_ ?_
 ·refine Bk ?_
  refine Sg (by kernel_rfl) (fun m f w => ∃ (s37 : (Int × List Expr)) (F1 : Mem) (as37_1 : SG) (ns37_1 : Nat) (es37_1 : Option Nat × Obj), A0 (Eg N sR94 x0) m s37 = some o34 /\ HS w0 F0 w F1 [es37_1, (sb b27 #[(vi x0.Op), (vi x0.Value), (.slice as37_1 s37.2.length ns37_1)] 33), (sb b24 #[(vi 0), (vi 0), (.slice none ([] : List Expr).length 0)] 33)] /\ Sh F0 F1 /\ FI f [] [(2, (pt b24 0)), (3, (pt b27 0)), (12, (.slice a0_2 x0.Kids.length n0_2)), (13, (vi (x0.Kids.length : Int))), (14, (vi s37.1))] /\ Aw Ao 33 F1 as37_1 ns37_1 s37.2 es37_1) N ⟨(0, ([] : List Expr)), F0, none, 0, (none, .cells #[] 0 (0, 0)), ho35, hs32, (Si _), fI, (Aw.nil Ao 33 F0 _)⟩ ?_
  rintro m54 f w38 ⟨s37, F1, as37_1, ns37_1, es37_1, hit55, hs39, le40, ⟨_, rfl⟩, hrs37_1⟩
  obtain ⟨m56, fl57, rfl, hb58, hnx59⟩ := AQ hit55
  refine Sq (Rg [0] ?_)
  refine Vs 1 ?_
  refine Nss ?_
  refine Cd hb58 (fun hb60 h61 => ?_) (fun hb60 h62 => ?_)
  ·refine Sc ?_
   refine Ac ?_
   refine Sq ?_
   refine Bk ?_
   refine Sq (Rg [0, 1, 2, 3] ?_)
   obtain ⟨x63, hx64, h66⟩ := bind_some h61
   obtain ⟨hi65, hx64'⟩ := Ap hx64
   obtain ⟨b67, o68, C69, E70, fz71, rfl, hF73, hE74⟩ := Su (Sk hs0_2 le40) hx64'
   obtain ⟨ae75_2, ne75_2, hc76, hbe75_2, hse75_2⟩ := (Az (hE74 _ _ hx64'))
   refine Ix hi65 ?_
   refine Lx 0 (hs39.pers _ _ hF73) hc76 ?_
   refine Al' 33 #[(vi 0), (vi 0), (.slice none ([] : List Expr).length 0)] hs39 (fun b77 w78 hs79 => ?_)
   refine St0 (Ag x63 ae75_2 ne75_2) hs79 (fun w80 hs81 => ?_)
   refine Nt ?_
   obtain ⟨j87, hj94, h95⟩ := bind_some h66
   refine RD 7 8 [(sb b77 (Ag x63 ae75_2 ne75_2) 33), (sb b24 #[(vi 0), (vi 0), (.slice none ([] : List Expr).length 0)] 33)] [(sb b27 #[(vi x0.Op), (vi x0.Value), (.slice as37_1 s37.2.length ns37_1)] 33)] hs81 (fun f w => ∃ (F3 : Mem) (aj87_0 : SG) (nj87_0 : Nat) (ej87_0 : Option Nat × Obj), HS w0 F0 w F3 [ej87_0, (sb b27 #[(vi x0.Op), (vi x0.Value), (.slice aj87_0 j87.length nj87_0)] 33), (sb b24 #[(vi 0), (vi 0), (.slice none ([] : List Expr).length 0)] 33)] /\ Sh F1 F3 /\ FI f [] [(2, (pt b24 0)), (3, (pt b27 0)), (12, (.slice (some ⟨b67, o68, none⟩) x0.Kids.length n0_2)), (13, (vi (x0.Kids.length : Int))), (14, (vi s37.1))] /\ Aw Ao 33 F3 aj87_0 nj87_0 j87 ej87_0) (fun wd82 hw83 => ?_) ?_
   ·refine Dv [0] ?_
    refine Dl 1 (fun _ hq => ((hq.2 rfl).2 0 _ _ rfl)) ?_
    refine Dl 2 (fun _ hq => (hq.1.2 0 _ _ rfl)) ?_
    refine D1 3 ?_
    obtain ⟨r96, hr97, h98⟩ := bind_some hj94
    refine DCl Eo hw83 (hsR94 wd82 F1 hw83.pers x63 ae75_2 ne75_2 hbe75_2 hse75_2 _ hr97) ?_
    rintro _ F4 w100 hs101 le102 ⟨ar96_0_2, nr96_0_2, rfl, hbr96_0_2, hsr96_0_2⟩
    refine D1 4 ?_
    refine DBs 33 [(vi r96.Op), (vi r96.Value), (.slice ar96_0_2 r96.Kids.length nr96_0_2)] hs101 le102 (fun b104 w105 hs106 => ?_)
    have hr108 : Aw Ao 33 F4 (some ⟨b104, 0, none⟩) 1 [r96] (some b104, .cells ([(vi r96.Op), (vi r96.Value), (.slice ar96_0_2 r96.Kids.length nr96_0_2)] : List Value).toArray 33 (0, 0)) := SC ⟨(Bb ⟨ar96_0_2, nr96_0_2, rfl, hbr96_0_2, hsr96_0_2⟩), rfl⟩ (by simp)
    refine D1 5 ?_
    obtain ⟨r109, hap110, h111⟩ := bind_some h98
    refine Sb PA hs106 (hrs37_1.mono le102) (hs106.rd0 hr108) hap110 le102 (fun a112 n113 e114 w115 hs116 hr117 => ?_)
    refine Dv [6] ?_
    refine D1 7 ?_
    refine Rn #[(vi x0.Op), (vi x0.Value), (.slice a112 r109.length n113)] hs116 le102 (fun w118 hs119 => ?_)
    obtain rfl := Aa h111
    exact SA (by kernel_rfl) ⟨F4, a112, n113, e114, hs119.dr0.dr0, le102, fI, hr117⟩
   ·rintro f w84 ⟨F3, aj87_0, nj87_0, ej87_0, hs85, le86, ⟨_, rfl⟩, hrj87_0⟩
    refine Aq ?_
    refine Ac ?_
    refine Rg [0, 1] ?_
    refine Vs 2 ?_
    refine Sd ?_
    have hn120 := AM h95 hnx59
    exact ⟨m56, Nat.lt_succ_self _, ((W64 (s37.1 + 1)), j87), F3, aj87_0, nj87_0, ej87_0, hn120, hs85, (le40.trans le86), fI, hrj87_0⟩
  ·refine Ex ?_
   refine Av ?_
   refine Av ?_
   refine AE rfl ?_
   have ho121 := AX h62 hnx59
   exact .inl ⟨rfl, (s37.1, s37.2), F1, as37_1, ns37_1, es37_1, ho121, hs39, le40, fI, hrs37_1⟩
 ·rintro f w48 ⟨s47, F2, as47_1, ns47_1, es47_1, rfl, hs49, le50, ⟨_, rfl⟩, hrs47_1⟩
  have h122 := Bo h36
  refine Ac ?_
  refine Sq (Rg [0, 1, 2] ?_)
  refine Ld hs49.at1 ?_
  have hb126 := SB hrs47_1
  obtain ⟨F5, hs123, le124, hs125⟩ := hs49.fr0 hrs47_1
  obtain ⟨r127, hr128, h129⟩ := bind_some h122
  refine Cl' Ju hs123 (J6 N w48 F5 hs123.pers (({ Op := x0.Op, Value := x0.Value, Kids := s47.2 } : Expr)) as47_1 ns47_1 hb126 hs125 _ hr128) ?_
  rintro _ F6 w131 hs132 le133 ⟨ar127_0_2, nr127_0_2, rfl, hbr127_0_2, hsr127_0_2⟩
  refine St1 (Ag r127 ar127_0_2 nr127_0_2) hs132 (fun w135 hs136 => ?_)
  refine Nt ?_
  refine Rt ?_
  obtain rfl := Aa h129
  exact ⟨rfl, (.agg (Ag r127 ar127_0_2 nr127_0_2)), AC (l := [.cell 2 33]) (by kernel_rfl) (vs := [(.agg (Ag r127 ar127_0_2 nr127_0_2))]) ⟨b24, 0, rfl, Aj (t := 33) (g := true) (s := 3) (by kernel_rfl) hs136.at1 rfl (by decide), trivial⟩, (.agg (Ag r127 ar127_0_2 nr127_0_2)), F6, rfl, hs136.clear, ⟨ar127_0_2, nr127_0_2, rfl, hbr127_0_2, hsr127_0_2⟩⟩
structure RL where
 q94 : Expr -> Option Expr
def Ou (N : Nat) : Nat -> RL
 | 0 => ⟨fun _ => none⟩
 | k + 1 => ⟨EI N (Ou N k).q94⟩
theorem M4 (N : Nat) : ∀ k, Oe (Ou N k).q94
 | 0 => (by unfold Oe; intros; rename_i h; cases h)
 | k + 1 => by
  have ih := M4 N k
  exact @HA N (Ou N k).q94 ih
def FH (N : Nat) (x0 : Expr) : Option Expr := (Ou N N).q94 x0
theorem H6 (N : Nat) (w0 : World) (F0 : Mem) (hF : SH w0 F0) (x0 : Expr) (a0_2 : SG) (n0_2 : Nat) (hb0_2 : LC x0.Kids.length n0_2) (hs0_2 : SlA Ao F0 a0_2 x0.Kids) (r : Expr) (h : FH N x0 = some r) :
  Calls Tryz.prog 94 ([(.agg #[(.int .i64 x0.Op), (.int .i64 x0.Value), (.slice a0_2 x0.Kids.length n0_2)])] : List Value).toArray w0 (AJ w0 F0 fun F' v => ∃ (aq0_2 : SG) (nq0_2 : Nat), v = (.agg #[(.int .i64 r.Op), (.int .i64 r.Value), (.slice aq0_2 r.Kids.length nq0_2)]) /\ LC r.Kids.length nq0_2 /\ SlA Ao F' aq0_2 r.Kids) := (M4 N N) w0 F0 hF x0 a0_2 n0_2 hb0_2 hs0_2 r h
def GA (N : Nat) (x0 : Expr) : Option (Expr × Int) :=
 ((C9 N x0).bind fun r27 => (bif (!r27) then some (({ Op := 0, Value := 0, Kids := ([] : List Expr) } : Expr), 61) else ((FH N x0).bind fun r40 => some (r40, 0))))
theorem I1 : Al Tryz.prog 30 := fun _ _ => by kernel_rfl
theorem JC (N : Nat) (w0 : World) (F0 : Mem) (hF : SH w0 F0) (x0 : Expr) (a0_2 : SG) (n0_2 : Nat) (hb0_2 : LC x0.Kids.length n0_2) (hs0_2 : SlA Ao F0 a0_2 x0.Kids) (r : (Expr × Int)) (h : GA N x0 = some r) :
  Calls Tryz.prog 30 ([(.agg (Ag x0 a0_2 n0_2))] : List Value).toArray w0 (AJ w0 F0 fun F' v => ∃ (aq0_2 : SG) (nq0_2 : Nat), v = (.tuple #[(.agg (Ag r.1 aq0_2 nq0_2)), (vi r.2)]) /\ LC r.1.Kids.length nq0_2 /\ SlA Ao F' aq0_2 r.1.Kids) := by
 have hs0 := Sj hF
 refine Go 10 Tryz.func30 ?_
 refine Sq (Rg [0, 1, 2] ?_)
 refine Bx' 33 (Ag x0 a0_2 n0_2) hs0 (fun b21 w22 hs23 => ?_)
 refine Al' 33 #[(vi 0), (vi 0), (.slice none ([] : List Expr).length 0)] hs23 (fun b24 w25 hs26 => ?_)
 refine Vs 1 ?_
 refine Nss ?_
 refine Sq (Rg [0, 1, 2] ?_)
 refine Ld hs26.at1 ?_
 obtain ⟨r27, hr28, h29⟩ := bind_some h
 refine Cl' EM hs26 (FA N w25 F0 hs26.pers x0 a0_2 n0_2 hb0_2 hs0_2 _ hr28) ?_
 rintro _ F1 w31 hs32 le33 rfl
 refine Vs 1 ?_
 refine Nt ?_
 refine Cd h29 (fun hb35 h36 => ?_) (fun hb35 h37 => ?_)
 ·refine Sq (Rg [0, 1, 2] ?_)
  refine Vs 1 ?_
  refine St0 #[(vi 0), (vi 0), (.slice none ([] : List Expr).length 0)] hs32 (fun w38 hs39 => ?_)
  refine Vs 1 ?_
  refine Nt ?_
  refine Rt ?_
  refine Ae ?_
  obtain rfl := Aa h36
  exact ⟨rfl, (.tuple #[(.agg #[(vi 0), (vi 0), (.slice none ([] : List Expr).length 0)]), (vi 61)]), AC (l := [.cell 2 33, .tmp 3]) (by kernel_rfl) (vs := [(.agg #[(vi 0), (vi 0), (.slice none ([] : List Expr).length 0)]), (vi 61)]) ⟨b24, 0, rfl, Aj (t := 33) (g := true) (s := 3) (by kernel_rfl) hs39.at0 rfl (by decide), ⟨rfl, trivial⟩⟩, (.tuple #[(.agg #[(vi 0), (vi 0), (.slice none ([] : List Expr).length 0)]), (vi 61)]), F1, rfl, hs39.clear, ⟨none, 0, rfl, Sl, (.inl rfl)⟩⟩
 ·refine Sc ?_
  refine Ac ?_
  refine Sq (Rg [0, 1, 2, 3] ?_)
  refine Ld hs32.at1 ?_
  obtain ⟨r40, hr41, h42⟩ := bind_some h37
  refine Cl' Eo hs32 (H6 N w31 F1 hs32.pers x0 a0_2 n0_2 hb0_2 (Sk hs0_2 le33) _ hr41) ?_
  rintro _ F2 w44 hs45 le46 ⟨ar40_0_2, nr40_0_2, rfl, hbr40_0_2, hsr40_0_2⟩
  refine St0 (Ag r40 ar40_0_2 nr40_0_2) hs45 (fun w48 hs49 => ?_)
  refine Vs 1 ?_
  refine Nt ?_
  refine Rt ?_
  obtain rfl := Aa h42
  exact ⟨rfl, (.tuple #[(.agg (Ag r40 ar40_0_2 nr40_0_2)), (vi 0)]), AC (l := [.cell 2 33, .tmp 3]) (by kernel_rfl) (vs := [(.agg (Ag r40 ar40_0_2 nr40_0_2)), (vi 0)]) ⟨b24, 0, rfl, Aj (t := 33) (g := true) (s := 3) (by kernel_rfl) hs49.at0 rfl (by decide), ⟨rfl, trivial⟩⟩, (.tuple #[(.agg (Ag r40 ar40_0_2 nr40_0_2)), (vi 0)]), F2, rfl, hs49.clear, ⟨ar40_0_2, nr40_0_2, rfl, hbr40_0_2, hsr40_0_2⟩⟩
def Cm (N : Nat) (x0 : Int) : Option (BT × Bool) :=
 (bif (x0 == 5) then some (({ text_ := ([111, 114] : SF), rank_ := 1, left_ := 1, right_ := 2 } : BT), true) else (bif (x0 == 4) then some (({ text_ := ([97, 110, 100] : SF), rank_ := 2, left_ := 2, right_ := 3 } : BT), true) else (bif (x0 == 6) then some (({ text_ := ([61] : SF), rank_ := 4, left_ := 5, right_ := 5 } : BT), true) else (bif (x0 == 7) then some (({ text_ := ([60] : SF), rank_ := 4, left_ := 5, right_ := 5 } : BT), true) else (bif (x0 == 8) then some (({ text_ := ([43] : SF), rank_ := 5, left_ := 5, right_ := 6 } : BT), true) else (bif (x0 == 9) then some (({ text_ := ([45] : SF), rank_ := 5, left_ := 5, right_ := 6 } : BT), true) else (bif (x0 == 10) then some (({ text_ := ([42] : SF), rank_ := 6, left_ := 6, right_ := 7 } : BT), true) else some (({ text_ := ([] : SF), rank_ := 0, left_ := 0, right_ := 0 } : BT), false))))))))
theorem JZ : Al Tryz.prog 150 := fun _ _ => by kernel_rfl
theorem K4 (N : Nat) (w0 : World) (F0 : Mem) (hF : SH w0 F0) (x0 : Int) (r : (BT × Bool)) (h : Cm N x0 = some r) :
  Calls Tryz.prog 150 ([(vi x0)] : List Value).toArray w0 (AJ w0 F0 fun F' v => v = (.tuple #[(.agg (D3 r.1)), (.bool r.2)])) := by
 have hs0 := Sj hF
 refine Go 27 Tryz.func150 ?_
 refine Sq (Rg [0, 1] ?_)
 refine Al' 173 #[(.string ⟨(([] : SF)).toArray⟩), (vi 0), (vi 0), (vi 0)] hs0 (fun b21 w22 hs23 => ?_)
 refine Vs 1 ?_
 refine Nss ?_
 refine Sq (Rg [0] ?_)
 refine Vs 1 ?_
 refine Nt ?_
 refine Bk ?_
 refine Sq (Rg [0, 1] ?_)
 refine Vs 2 ?_
 refine Nt ?_
 refine Cd h (fun hb24 h25 => ?_) (fun hb24 h26 => ?_)
 ·refine Sq (Rg [0, 1, 2] ?_)
  refine Vs 1 ?_
  refine St0 #[(.string ⟨(([111, 114] : SF)).toArray⟩), (vi 1), (vi 1), (vi 2)] hs23 (fun w27 hs28 => ?_)
  refine Vs 1 ?_
  refine Nt ?_
  refine Rt ?_
  refine Ai ?_
  refine Ae ?_
  obtain rfl := Aa h25
  exact ⟨rfl, (.tuple #[(.agg #[(.string ⟨(([111, 114] : SF)).toArray⟩), (vi 1), (vi 1), (vi 2)]), (.bool true)]), AC (l := [.cell 2 173, .tmp 3]) (by kernel_rfl) (vs := [(.agg #[(.string ⟨(([111, 114] : SF)).toArray⟩), (vi 1), (vi 1), (vi 2)]), (.bool true)]) ⟨b21, 0, rfl, Aj (t := 173) (g := true) (s := 4) (by kernel_rfl) hs28.at0 rfl (by decide), ⟨rfl, trivial⟩⟩, (.tuple #[(.agg #[(.string ⟨(([111, 114] : SF)).toArray⟩), (vi 1), (vi 1), (vi 2)]), (.bool true)]), F0, rfl, hs28.clear, rfl⟩
 ·refine Sq (Rg [0, 1] ?_)
  refine Vs 2 ?_
  refine Nt ?_
  refine Cd h26 (fun hb29 h30 => ?_) (fun hb29 h31 => ?_)
  ·refine Sq (Rg [0, 1, 2] ?_)
   refine Vs 1 ?_
   refine St0 #[(.string ⟨(([97, 110, 100] : SF)).toArray⟩), (vi 2), (vi 2), (vi 3)] hs23 (fun w32 hs33 => ?_)
   refine Vs 1 ?_
   refine Nt ?_
   refine Rt ?_
   refine Ai ?_
   refine Ae ?_
   obtain rfl := Aa h30
   exact ⟨rfl, (.tuple #[(.agg #[(.string ⟨(([97, 110, 100] : SF)).toArray⟩), (vi 2), (vi 2), (vi 3)]), (.bool true)]), AC (l := [.cell 2 173, .tmp 3]) (by kernel_rfl) (vs := [(.agg #[(.string ⟨(([97, 110, 100] : SF)).toArray⟩), (vi 2), (vi 2), (vi 3)]), (.bool true)]) ⟨b21, 0, rfl, Aj (t := 173) (g := true) (s := 4) (by kernel_rfl) hs33.at0 rfl (by decide), ⟨rfl, trivial⟩⟩, (.tuple #[(.agg #[(.string ⟨(([97, 110, 100] : SF)).toArray⟩), (vi 2), (vi 2), (vi 3)]), (.bool true)]), F0, rfl, hs33.clear, rfl⟩
  ·refine Sq (Rg [0, 1] ?_)
   refine Vs 2 ?_
   refine Nt ?_
   refine Cd h31 (fun hb34 h35 => ?_) (fun hb34 h36 => ?_)
   ·refine Sq (Rg [0, 1, 2] ?_)
    refine Vs 1 ?_
    refine St0 #[(.string ⟨(([61] : SF)).toArray⟩), (vi 4), (vi 5), (vi 5)] hs23 (fun w37 hs38 => ?_)
    refine Vs 1 ?_
    refine Nt ?_
    refine Rt ?_
    refine Ai ?_
    refine Ae ?_
    obtain rfl := Aa h35
    exact ⟨rfl, (.tuple #[(.agg #[(.string ⟨(([61] : SF)).toArray⟩), (vi 4), (vi 5), (vi 5)]), (.bool true)]), AC (l := [.cell 2 173, .tmp 3]) (by kernel_rfl) (vs := [(.agg #[(.string ⟨(([61] : SF)).toArray⟩), (vi 4), (vi 5), (vi 5)]), (.bool true)]) ⟨b21, 0, rfl, Aj (t := 173) (g := true) (s := 4) (by kernel_rfl) hs38.at0 rfl (by decide), ⟨rfl, trivial⟩⟩, (.tuple #[(.agg #[(.string ⟨(([61] : SF)).toArray⟩), (vi 4), (vi 5), (vi 5)]), (.bool true)]), F0, rfl, hs38.clear, rfl⟩
   ·refine Sq (Rg [0, 1] ?_)
    refine Vs 2 ?_
    refine Nt ?_
    refine Cd h36 (fun hb39 h40 => ?_) (fun hb39 h41 => ?_)
    ·refine Sq (Rg [0, 1, 2] ?_)
     refine Vs 1 ?_
     refine St0 #[(.string ⟨(([60] : SF)).toArray⟩), (vi 4), (vi 5), (vi 5)] hs23 (fun w42 hs43 => ?_)
     refine Vs 1 ?_
     refine Nt ?_
     refine Rt ?_
     refine Ai ?_
     refine Ae ?_
     obtain rfl := Aa h40
     exact ⟨rfl, (.tuple #[(.agg #[(.string ⟨(([60] : SF)).toArray⟩), (vi 4), (vi 5), (vi 5)]), (.bool true)]), AC (l := [.cell 2 173, .tmp 3]) (by kernel_rfl) (vs := [(.agg #[(.string ⟨(([60] : SF)).toArray⟩), (vi 4), (vi 5), (vi 5)]), (.bool true)]) ⟨b21, 0, rfl, Aj (t := 173) (g := true) (s := 4) (by kernel_rfl) hs43.at0 rfl (by decide), ⟨rfl, trivial⟩⟩, (.tuple #[(.agg #[(.string ⟨(([60] : SF)).toArray⟩), (vi 4), (vi 5), (vi 5)]), (.bool true)]), F0, rfl, hs43.clear, rfl⟩
    ·refine Sq (Rg [0, 1] ?_)
     refine Vs 2 ?_
     refine Nt ?_
     refine Cd h41 (fun hb44 h45 => ?_) (fun hb44 h46 => ?_)
     ·refine Sq (Rg [0, 1, 2] ?_)
      refine Vs 1 ?_
      refine St0 #[(.string ⟨(([43] : SF)).toArray⟩), (vi 5), (vi 5), (vi 6)] hs23 (fun w47 hs48 => ?_)
      refine Vs 1 ?_
      refine Nt ?_
      refine Rt ?_
      refine Ai ?_
      refine Ae ?_
      obtain rfl := Aa h45
      exact ⟨rfl, (.tuple #[(.agg #[(.string ⟨(([43] : SF)).toArray⟩), (vi 5), (vi 5), (vi 6)]), (.bool true)]), AC (l := [.cell 2 173, .tmp 3]) (by kernel_rfl) (vs := [(.agg #[(.string ⟨(([43] : SF)).toArray⟩), (vi 5), (vi 5), (vi 6)]), (.bool true)]) ⟨b21, 0, rfl, Aj (t := 173) (g := true) (s := 4) (by kernel_rfl) hs48.at0 rfl (by decide), ⟨rfl, trivial⟩⟩, (.tuple #[(.agg #[(.string ⟨(([43] : SF)).toArray⟩), (vi 5), (vi 5), (vi 6)]), (.bool true)]), F0, rfl, hs48.clear, rfl⟩
     ·refine Sq (Rg [0, 1] ?_)
      refine Vs 2 ?_
      refine Nt ?_
      refine Cd h46 (fun hb49 h50 => ?_) (fun hb49 h51 => ?_)
      ·refine Sq (Rg [0, 1, 2] ?_)
       refine Vs 1 ?_
       refine St0 #[(.string ⟨(([45] : SF)).toArray⟩), (vi 5), (vi 5), (vi 6)] hs23 (fun w52 hs53 => ?_)
       refine Vs 1 ?_
       refine Nt ?_
       refine Rt ?_
       refine Ai ?_
       refine Ae ?_
       obtain rfl := Aa h50
       exact ⟨rfl, (.tuple #[(.agg #[(.string ⟨(([45] : SF)).toArray⟩), (vi 5), (vi 5), (vi 6)]), (.bool true)]), AC (l := [.cell 2 173, .tmp 3]) (by kernel_rfl) (vs := [(.agg #[(.string ⟨(([45] : SF)).toArray⟩), (vi 5), (vi 5), (vi 6)]), (.bool true)]) ⟨b21, 0, rfl, Aj (t := 173) (g := true) (s := 4) (by kernel_rfl) hs53.at0 rfl (by decide), ⟨rfl, trivial⟩⟩, (.tuple #[(.agg #[(.string ⟨(([45] : SF)).toArray⟩), (vi 5), (vi 5), (vi 6)]), (.bool true)]), F0, rfl, hs53.clear, rfl⟩
      ·refine Sq (Rg [0, 1] ?_)
       refine Vs 2 ?_
       refine Nt ?_
       refine Cd h51 (fun hb54 h55 => ?_) (fun hb54 h56 => ?_)
       ·refine Sq (Rg [0, 1, 2] ?_)
        refine Vs 1 ?_
        refine St0 #[(.string ⟨(([42] : SF)).toArray⟩), (vi 6), (vi 6), (vi 7)] hs23 (fun w57 hs58 => ?_)
        refine Vs 1 ?_
        refine Nt ?_
        refine Rt ?_
        refine Ai ?_
        refine Ae ?_
        obtain rfl := Aa h55
        exact ⟨rfl, (.tuple #[(.agg #[(.string ⟨(([42] : SF)).toArray⟩), (vi 6), (vi 6), (vi 7)]), (.bool true)]), AC (l := [.cell 2 173, .tmp 3]) (by kernel_rfl) (vs := [(.agg #[(.string ⟨(([42] : SF)).toArray⟩), (vi 6), (vi 6), (vi 7)]), (.bool true)]) ⟨b21, 0, rfl, Aj (t := 173) (g := true) (s := 4) (by kernel_rfl) hs58.at0 rfl (by decide), ⟨rfl, trivial⟩⟩, (.tuple #[(.agg #[(.string ⟨(([42] : SF)).toArray⟩), (vi 6), (vi 6), (vi 7)]), (.bool true)]), F0, rfl, hs58.clear, rfl⟩
       ·refine Sc ?_
        refine Aq ?_
        refine Ac ?_
        refine Sq (Rg [0, 1, 2] ?_)
        refine Vs 1 ?_
        refine St0 #[(.string ⟨(([] : SF)).toArray⟩), (vi 0), (vi 0), (vi 0)] hs23 (fun w59 hs60 => ?_)
        refine Vs 1 ?_
        refine Nt ?_
        refine Rt ?_
        obtain rfl := Aa h56
        exact ⟨rfl, (.tuple #[(.agg #[(.string ⟨(([] : SF)).toArray⟩), (vi 0), (vi 0), (vi 0)]), (.bool false)]), AC (l := [.cell 2 173, .tmp 3]) (by kernel_rfl) (vs := [(.agg #[(.string ⟨(([] : SF)).toArray⟩), (vi 0), (vi 0), (vi 0)]), (.bool false)]) ⟨b21, 0, rfl, Aj (t := 173) (g := true) (s := 4) (by kernel_rfl) hs60.at0 rfl (by decide), ⟨rfl, trivial⟩⟩, (.tuple #[(.agg #[(.string ⟨(([] : SF)).toArray⟩), (vi 0), (vi 0), (vi 0)]), (.bool false)]), F0, rfl, hs60.clear, rfl⟩
def E6 (N : Nat)  : Option (List SF) :=
 some [([98, 97, 110, 100] : SF), ([109, 111, 100, 101] : SF), ([104, 111, 117, 114] : SF), ([109, 121, 99, 111, 117, 110, 116, 114, 121] : SF), ([109, 121, 122, 111, 110, 101] : SF), ([109, 121, 99, 111, 110, 116, 105, 110, 101, 110, 116] : SF), ([99, 111, 117, 110, 116, 114, 121] : SF), ([122, 111, 110, 101] : SF), ([99, 111, 110, 116, 105, 110, 101, 110, 116] : SF), ([99, 97, 108, 108] : SF), ([103, 111, 116, 122, 111, 110, 101] : SF), ([99, 97, 116, 101, 103, 111, 114, 121] : SF), ([112, 111, 119, 101, 114] : SF), ([115, 116, 97, 116, 117, 115] : SF)]
theorem GV : Al Tryz.prog 152 := fun _ _ => by kernel_rfl
theorem HM (N : Nat) (w0 : World) (F0 : Mem) (hF : SH w0 F0)  (r : (List SF)) (h : E6 N  = some r) :
  Calls Tryz.prog 152 ([] : List Value).toArray w0 (AJ w0 F0 fun F' v => ∃ (aq0_0 : SG) (nq0_0 : Nat), v = (.slice aq0_0 r.length nq0_0) /\ LC r.length nq0_0 /\ SlA EF F' aq0_0 r) := by
 have hs0 := Sj hF
 refine Go 2 Tryz.func152 ?_
 refine Sq (Rg [0] ?_)
 refine Vs 1 ?_
 refine Nss (Rg [0, 1] ?_)
 refine Bs 9 [(.string ⟨(([98, 97, 110, 100] : SF)).toArray⟩), (.string ⟨(([109, 111, 100, 101] : SF)).toArray⟩), (.string ⟨(([104, 111, 117, 114] : SF)).toArray⟩), (.string ⟨(([109, 121, 99, 111, 117, 110, 116, 114, 121] : SF)).toArray⟩), (.string ⟨(([109, 121, 122, 111, 110, 101] : SF)).toArray⟩), (.string ⟨(([109, 121, 99, 111, 110, 116, 105, 110, 101, 110, 116] : SF)).toArray⟩), (.string ⟨(([99, 111, 117, 110, 116, 114, 121] : SF)).toArray⟩), (.string ⟨(([122, 111, 110, 101] : SF)).toArray⟩), (.string ⟨(([99, 111, 110, 116, 105, 110, 101, 110, 116] : SF)).toArray⟩), (.string ⟨(([99, 97, 108, 108] : SF)).toArray⟩), (.string ⟨(([103, 111, 116, 122, 111, 110, 101] : SF)).toArray⟩), (.string ⟨(([99, 97, 116, 101, 103, 111, 114, 121] : SF)).toArray⟩), (.string ⟨(([112, 111, 119, 101, 114] : SF)).toArray⟩), (.string ⟨(([115, 116, 97, 116, 117, 115] : SF)).toArray⟩)] hs0 (fun b21 w22 hs23 => ?_)
 have hr25 : Aw EF 9 F0 (some ⟨b21, 0, none⟩) 14 [([98, 97, 110, 100] : SF), ([109, 111, 100, 101] : SF), ([104, 111, 117, 114] : SF), ([109, 121, 99, 111, 117, 110, 116, 114, 121] : SF), ([109, 121, 122, 111, 110, 101] : SF), ([109, 121, 99, 111, 110, 116, 105, 110, 101, 110, 116] : SF), ([99, 111, 117, 110, 116, 114, 121] : SF), ([122, 111, 110, 101] : SF), ([99, 111, 110, 116, 105, 110, 101, 110, 116] : SF), ([99, 97, 108, 108] : SF), ([103, 111, 116, 122, 111, 110, 101] : SF), ([99, 97, 116, 101, 103, 111, 114, 121] : SF), ([112, 111, 119, 101, 114] : SF), ([115, 116, 97, 116, 117, 115] : SF)] (some b21, .cells ([(.string ⟨(([98, 97, 110, 100] : SF)).toArray⟩), (.string ⟨(([109, 111, 100, 101] : SF)).toArray⟩), (.string ⟨(([104, 111, 117, 114] : SF)).toArray⟩), (.string ⟨(([109, 121, 99, 111, 117, 110, 116, 114, 121] : SF)).toArray⟩), (.string ⟨(([109, 121, 122, 111, 110, 101] : SF)).toArray⟩), (.string ⟨(([109, 121, 99, 111, 110, 116, 105, 110, 101, 110, 116] : SF)).toArray⟩), (.string ⟨(([99, 111, 117, 110, 116, 114, 121] : SF)).toArray⟩), (.string ⟨(([122, 111, 110, 101] : SF)).toArray⟩), (.string ⟨(([99, 111, 110, 116, 105, 110, 101, 110, 116] : SF)).toArray⟩), (.string ⟨(([99, 97, 108, 108] : SF)).toArray⟩), (.string ⟨(([103, 111, 116, 122, 111, 110, 101] : SF)).toArray⟩), (.string ⟨(([99, 97, 116, 101, 103, 111, 114, 121] : SF)).toArray⟩), (.string ⟨(([112, 111, 119, 101, 114] : SF)).toArray⟩), (.string ⟨(([115, 116, 97, 116, 117, 115] : SF)).toArray⟩)] : List Value).toArray 9 (0, 0)) := SC ⟨rfl, ⟨rfl, ⟨rfl, ⟨rfl, ⟨rfl, ⟨rfl, ⟨rfl, ⟨rfl, ⟨rfl, ⟨rfl, ⟨rfl, ⟨rfl, ⟨rfl, ⟨rfl, rfl⟩⟩⟩⟩⟩⟩⟩⟩⟩⟩⟩⟩⟩⟩ (by simp)
 refine Vs 1 ?_
 refine Nt ?_
 refine Rt ?_
 have hb29 := SB hr25
 obtain ⟨F1, hs26, le27, hs28⟩ := hs23.fr0 hr25
 obtain rfl := Aa h
 exact Re [(.slice (some ⟨b21, 0, none⟩) [([98, 97, 110, 100] : SF), ([109, 111, 100, 101] : SF), ([104, 111, 117, 114] : SF), ([109, 121, 99, 111, 117, 110, 116, 114, 121] : SF), ([109, 121, 122, 111, 110, 101] : SF), ([109, 121, 99, 111, 110, 116, 105, 110, 101, 110, 116] : SF), ([99, 111, 117, 110, 116, 114, 121] : SF), ([122, 111, 110, 101] : SF), ([99, 111, 110, 116, 105, 110, 101, 110, 116] : SF), ([99, 97, 108, 108] : SF), ([103, 111, 116, 122, 111, 110, 101] : SF), ([99, 97, 116, 101, 103, 111, 114, 121] : SF), ([112, 111, 119, 101, 114] : SF), ([115, 116, 97, 116, 117, 115] : SF)].length 14)] hs26 ⟨(some ⟨b21, 0, none⟩), 14, rfl, hb29, hs28⟩
section
open Go.Proofs Go.RowKit Go.Sort Go.Lib
def strings_HasPrefix (_N : Nat) (s p : SF) : Option Bool := some (Go.Lib.hasPrefix s p)
theorem GO : Al Tryz.prog 182 := fun _ _ => by kernel_rfl
theorem Hu (N : Nat) (w0 : World) (F0 : Mem) (hF : SH w0 F0) (x0 : SF) (x1 : SF) (r : Bool) (h : strings_HasPrefix N x0 x1 = some r) :
  Calls Tryz.prog 182 ([(.string ⟨(x0).toArray⟩), (.string ⟨(x1).toArray⟩)] : List Value).toArray w0 (AJ w0 F0 fun _ v => v = (.bool r)) := by
 cases h
 exact AJ.below hF ((Tryz.strings_HasPrefix ⟨x0.toArray⟩ ⟨x1.toArray⟩ w0).mono fun e w' ⟨he, hw⟩ => ⟨he, hw ▸ Below.refl _ _⟩) rfl
def strings_IndexByte (_N : Nat) (s : SF) (c : Int) : Option Int := some (Go.Lib.indexByte s c.toNat.toUInt8)
theorem GN : Al Tryz.prog 183 := fun _ _ => by kernel_rfl
theorem Hs (N : Nat) (w0 : World) (F0 : Mem) (hF : SH w0 F0) (x0 : SF) (x1 : Int) (r : Int) (h : strings_IndexByte N x0 x1 = some r) :
  Calls Tryz.prog 183 ([(.string ⟨(x0).toArray⟩), (.int .u8 x1)] : List Value).toArray w0 (AJ w0 F0 fun _ v => v = (.int .i64 r)) := by
 cases h
 exact AJ.below hF ((Tryz.strings_IndexByte ⟨x0.toArray⟩ x1 w0).mono fun e w' ⟨he, hw⟩ => ⟨he, hw ▸ Below.refl _ _⟩) rfl
def strconv_Itoa (_N : Nat) (n : Int) : Option SF := if -9223372036854775808 <= n /\ n <= 9223372036854775807 then some (Go.Lib.itoa n) else none
theorem Gm : Al Tryz.prog 151 := fun _ _ => by kernel_rfl
theorem G7 (N : Nat) (w0 : World) (F0 : Mem) (hF : SH w0 F0) (hG : B0 F0) (x0 : Int) (r : SF) (h : strconv_Itoa N x0 = some r) :
  Calls Tryz.prog 151 ([(.int .i64 x0)] : List Value).toArray w0 (AJ w0 F0 fun _ v => v = (.string ⟨(r).toArray⟩)) := by
 unfold strconv_Itoa at h
 split at h
 ·rename_i ha
  cases h
  refine AJ.below hF ((Tryz.strconv_Itoa x0 ha.1 ha.2 w0 (hG w0 hF).1).mono ?_) rfl
  rintro e w' ⟨rfl, k, os, rfl⟩
  exact ⟨rfl, rfl, rfl, rfl, by simp [grow, World.drewN], fun j hj => by
   show ((w0.drewN k).heap ++ os)[j]? = _
   rw [Array.getElem?_append_left (show j < (w0.drewN k).heap.size from hj)]; rfl⟩
 ·cases h
def FU (_N : Nat) (s : SF) : Option (Int × Bool) := if s.length <= 281474976710656 then (match Go.Lib.atoiAll s with
 | .ok v => some (v, false)
 | .range => some (Go.Lib.atoiSat s, true)
 | _ => none) else none
theorem JX : Al Tryz.prog 248 := fun _ _ => by kernel_rfl
theorem K2 (N : Nat) (w0 : World) (F0 : Mem) (hF : SH w0 F0) (hG : B0 F0) (x0 : SF) (r : Int × Bool) (h : FU N x0 = some r) :
  Calls Tryz.prog 248 ([(.string ⟨(x0).toArray⟩)] : List Value).toArray w0 (AJ w0 F0 fun _ v => ∃ (vq1_0 : Value), v = (.tuple #[(.int .i64 r.1), vq1_0]) /\ RR r.2 vq1_0) := by
 unfold FU at h
 split at h
 ·rename_i ha
  have hsz : (⟨x0.toArray⟩ : ByteArray).size <= 281474976710656 := by simpa [ByteArray.size] using ha
  split at h
  ·rename_i v hv
   cases h
   refine AJ.below hF ((Tryz.strconv_Atoi_ok ⟨x0.toArray⟩ (by omega) v (by simpa using hv) w0).mono ?_) ⟨.nilIface, rfl, rfl⟩
   rintro e w' ⟨rfl, (rfl | ⟨t, rfl⟩)⟩
   ·exact ⟨rfl, Below.refl _ _⟩
   ·exact ⟨rfl, rfl, rfl, rfl, by rw [Go.Lib.bytesWorld_size]; omega, fun j hj => Go.Lib.bytesWorld_at_old w0 _ _ j hj⟩
  ·rename_i hv
   cases h
   obtain ⟨tp, p, hvar⟩ := (hG w0 hF).2
   refine (Tryz.strconv_Atoi_range_var ⟨x0.toArray⟩ hsz (by simpa using hv) tp p w0 hvar).mono ?_
   rintro e w' ⟨n, rfl, _, _, hb⟩
   exact ⟨_, F0, rfl, HS.below hF hb, _, rfl, _, _, rfl⟩
  ·cases h
 ·cases h
end
def Od (sR97 : Expr -> Int -> Option SF) : Prop := ∀ (w0 : World) (F0 : Mem) (hF : SH w0 F0) (hG : B0 F0) (x0 : Expr) (a0_2 : SG) (n0_2 : Nat) (hb0_2 : LC x0.Kids.length n0_2) (hs0_2 : SlA Ao F0 a0_2 x0.Kids) (x1 : Int) (r : SF), sR97 x0 x1 = some r -> Calls Tryz.prog 97 ([(.agg #[(.int .i64 x0.Op), (.int .i64 x0.Value), (.slice a0_2 x0.Kids.length n0_2)]), (.int .i64 x1)] : List Value).toArray w0 (AJ w0 F0 fun F' v => v = (.string ⟨(r).toArray⟩))
theorem A8 : Al Tryz.prog 97 := fun _ _ => by kernel_rfl
def C2 (N : Nat) (sR97 : Expr -> Int -> Option SF) (x0 : Expr) (x1 : Int) : Option SF :=
 ((Cm N x0.Op).bind fun r24 => ((bif r24.2 then (((idx x0.Kids 0).bind fun x62 => ((idx x0.Kids 1).bind fun x76 => ((sR97 x62 r24.1.left_).bind fun r82 => ((A3 r82 ([32] : SF)).bind fun r90 => ((A3 r90 r24.1.text_).bind fun r93 => ((A3 r93 ([32] : SF)).bind fun r96 => ((sR97 x76 r24.1.right_).bind fun r99 => ((A3 r96 r99).bind fun r107 => some r107)))))))).bind fun j55 => some (r24.1.rank_, j55)) else ((bif (x0.Op == 1) then ((strconv_Itoa N x0.Value).bind fun r123 => some (7, r123)) else ((bif (x0.Op == 2) then (((E6 N ).bind fun r156 => ((idx r156 x0.Value).bind fun x164 => some x164)).bind fun j149 => some (7, j149)) else ((bif (x0.Op == 3) then ((idx x0.Kids 0).bind fun x191 => ((sR97 x191 3).bind fun r205 => ((A3 ([110, 111, 116, 32] : SF) r205).bind fun r213 => some (3, r213)))) else ((bif (x0.Op == 11) then (((idx x0.Kids 0).bind fun x241 => ((idx x0.Kids 1).bind fun x255 => ((idx x0.Kids 2).bind fun x261 => ((sR97 x241 1).bind fun r267 => ((A3 ([105, 102, 40] : SF) r267).bind fun r275 => ((A3 r275 ([44, 32] : SF)).bind fun r278 => ((sR97 x255 1).bind fun r281 => ((A3 r278 r281).bind fun r289 => ((A3 r289 ([44, 32] : SF)).bind fun r292 => ((sR97 x261 1).bind fun r295 => ((A3 r292 r295).bind fun r303 => ((A3 r303 ([41] : SF)).bind fun r306 => some r306)))))))))))).bind fun j234 => some j234) else some ([] : SF)).bind fun j219 => some (7, j219))).bind fun j181 => some (j181.1, j181.2))).bind fun j134 => some (j134.1, j134.2))).bind fun j113 => some (j113.1, j113.2))).bind fun j40 => (bif (decide (j40.1 < x1)) then ((A3 ([40] : SF) j40.2).bind fun r312 => ((A3 r312 ([41] : SF)).bind fun r315 => some r315)) else some j40.2)))
theorem JF (N : Nat) (sR97 : Expr -> Int -> Option SF) (hsR97 : Od sR97) (w0 : World) (F0 : Mem) (hF : SH w0 F0) (hG : B0 F0) (x0 : Expr) (a0_2 : SG) (n0_2 : Nat) (hb0_2 : LC x0.Kids.length n0_2) (hs0_2 : SlA Ao F0 a0_2 x0.Kids) (x1 : Int) (r : SF) (h : C2 N sR97 x0 x1 = some r) :
  Calls Tryz.prog 97 ([(.agg (Ag x0 a0_2 n0_2)), (vi x1)] : List Value).toArray w0 (AJ w0 F0 fun F' v => v = (.string ⟨(r).toArray⟩)) := by
 have hs0 := Sj hF
 refine Go 97 Tryz.func97 ?_
 refine Sq (Rg [0, 1] ?_)
 refine Bx' 33 (Ag x0 a0_2 n0_2) hs0 (fun b21 w22 hs23 => ?_)
 refine Vs 1 ?_
 refine Nss (Rg [0, 1] ?_)
 refine Vs 2 ?_
 refine Nss (Rg [0, 1, 2, 3, 4, 5, 6, 7, 8] ?_)
 refine Vs 1 ?_
 refine Ld hs23.at0 ?_
 obtain ⟨r24, hr25, h26⟩ := bind_some h
 refine Cl' JZ hs23 (K4 N w22 F0 hs23.pers x0.Op _ hr25) ?_
 rintro _ F1 w28 hs29 le30 rfl
 refine Vs 3 ?_
 refine Al' 173 #[(.string ⟨(([] : SF)).toArray⟩), (vi 0), (vi 0), (vi 0)] hs29 (fun b32 w33 hs34 => ?_)
 refine St0 (D3 r24.1) hs34 (fun w35 hs36 => ?_)
 refine Vs 1 ?_
 refine Nss ?_
 refine Bk ?_
 refine Sq (Rg [0, 1] ?_)
 refine Vs 2 ?_
 refine Nt ?_
 obtain ⟨j40, hj45, h46⟩ := bind_some h26
 refine So (fun f w => ∃ (F2 : Mem), HS w0 F0 w F2 [] /\ Sh F1 F2 /\ FI f [] [(1, (vi x1)), (5, (vi j40.1)), (6, (.string ⟨(j40.2).toArray⟩))]) ?_ ?_
 ·refine Cd hj45 (fun hb47 h48 => ?_) (fun hb47 h49 => ?_)
  ·obtain ⟨j55, hj60, h61⟩ := bind_some h48
   refine RD 24 24 [(sb b32 (D3 r24.1) 173), (sb b21 (Ag x0 a0_2 n0_2) 33)] [] hs36 (fun f w => ∃ (F3 : Mem), HS w0 F0 w F3 [] /\ Sh F1 F3 /\ FI f [] [(1, (vi x1)), (5, (vi r24.1.rank_)), (6, (.string ⟨(j55).toArray⟩))]) (fun wd50 hw51 => ?_) ?_
   ·refine Dvl [0] [tt, ff, ff, ff, ff, ff, ff, ff, ff, ff, ff, ff, ff, ff, ff, ff, ff, ff, ff, ff, ff, ff, ff, ff] ?_
    refine Dl 1 (fun _ hq => (hq.1.2 0 _ _ rfl)) ?_
    refine Dvl [2] [tt, tt, tt, ff, ff, ff, ff, ff, ff, ff, ff, ff, ff, ff, ff, ff, ff, ff, ff, ff, ff, ff, ff, ff] ?_
    refine Dl 3 (fun _ hq => (hq.1.2 1 _ _ rfl)) ?_
    obtain ⟨x62, hx63, h65⟩ := bind_some hj60
    obtain ⟨hi64, hx63'⟩ := Ap hx63
    obtain ⟨b66, o67, C68, E69, fz70, rfl, hF72, hE73⟩ := Su (Sk hs0_2 le30) hx63'
    obtain ⟨ae74_2, ne74_2, hc75, hbe74_2, hse74_2⟩ := (Az (hE73 _ _ hx63'))
    refine Di 4 hi64 ?_
    refine Dx 5 0 (fun _ hq => hq.1.1 _ _ hF72) hc75 ?_
    refine Dvl [6] [tt, tt, tt, tt, tt, tt, tt, ff, ff, ff, ff, ff, ff, ff, ff, ff, ff, ff, ff, ff, ff, ff, ff, ff] ?_
    refine Dl 7 (fun _ hq => (hq.1.2 0 _ _ rfl)) ?_
    refine Dvl [10] [tt, tt, tt, tt, tt, tt, tt, tt, ff, ff, tt, ff, ff, ff, ff, ff, ff, ff, ff, ff, ff, ff, ff, ff] ?_
    refine Dl 11 (fun _ hq => (hq.1.2 0 _ _ rfl)) ?_
    refine Dvl [14] [tt, tt, tt, tt, tt, tt, tt, tt, ff, ff, tt, tt, ff, ff, tt, ff, ff, ff, ff, ff, ff, ff, ff, ff] ?_
    refine Dl 15 (fun _ hq => (hq.1.2 1 _ _ rfl)) ?_
    obtain ⟨x76, hx77, h79⟩ := bind_some h65
    obtain ⟨hi78, hx77'⟩ := Ap hx77
    obtain ⟨ae80_2, ne80_2, hc81, hbe80_2, hse80_2⟩ := (Az (hE73 _ _ hx77'))
    refine Di 16 hi78 ?_
    refine Dx 17 0 (fun _ hq => hq.1.1 _ _ hF72) hc81 ?_
    refine Dvl [18] [tt, tt, tt, tt, tt, tt, tt, tt, ff, ff, tt, tt, ff, ff, tt, tt, tt, tt, tt, ff, ff, ff, ff, ff] ?_
    refine Dl 19 (fun _ hq => (hq.1.2 0 _ _ rfl)) ?_
    refine D1 8 ?_
    obtain ⟨r82, hr83, h84⟩ := bind_some h79
    refine DCl A8 hw51 (hsR97 wd50 F1 hw51.pers (hG.mono le30) x62 ae74_2 ne74_2 hbe74_2 hse74_2 r24.1.left_ _ hr83) ?_
    rintro _ F4 w86 hs87 le88 rfl
    obtain ⟨r90, hr91, h92⟩ := bind_some h84
    refine Dtl 9 26 9 (.string ⟨(r90).toArray⟩) [tt, tt, tt, tt, tt, tt, tt, tt, tt, tt, tt, tt, ff, ff, tt, tt, tt, tt, tt, tt, ff, ff, ff, ff] (fun _ hq => AD (t := 9) (t' := 9) (x := (.tmp 25)) (y := (.const (.string ⟨([32] : SF).toArray⟩))) (a := r82) (b := ([32] : SF)) (v := r90) rfl rfl hr91) ?_
    obtain ⟨r93, hr94, h95⟩ := bind_some h92
    refine Dtl 12 29 9 (.string ⟨(r93).toArray⟩) [tt, tt, tt, tt, tt, tt, tt, tt, tt, tt, tt, tt, tt, ff, tt, tt, tt, tt, tt, tt, ff, ff, ff, ff] (fun _ hq => AD (t := 9) (t' := 9) (x := (.tmp 26)) (y := (.tmp 28)) (a := r90) (b := r24.1.text_) (v := r93) rfl rfl hr94) ?_
    obtain ⟨r96, hr97, h98⟩ := bind_some h95
    refine Dtl 13 30 9 (.string ⟨(r96).toArray⟩) [tt, tt, tt, tt, tt, tt, tt, tt, tt, tt, tt, tt, tt, tt, tt, tt, tt, tt, tt, tt, ff, ff, ff, ff] (fun _ hq => AD (t := 9) (t' := 9) (x := (.tmp 29)) (y := (.const (.string ⟨([32] : SF).toArray⟩))) (a := r93) (b := ([32] : SF)) (v := r96) rfl rfl hr97) ?_
    refine D1 20 ?_
    obtain ⟨r99, hr100, h101⟩ := bind_some h98
    refine DCl A8 hs87 (hsR97 w86 F4 hs87.pers (hG.mono (le30.trans le88)) x76 ae80_2 ne80_2 hbe80_2 (Sk hse80_2 le88) r24.1.right_ _ hr100) ?_
    rintro _ F5 w103 hs104 le105 rfl
    obtain ⟨r107, hr108, h109⟩ := bind_some h101
    refine Dtl 21 38 9 (.string ⟨(r107).toArray⟩) [tt, tt, tt, tt, tt, tt, tt, tt, tt, tt, tt, tt, tt, tt, tt, tt, tt, tt, tt, tt, tt, tt, ff, ff] (fun _ hq => AD (t := 9) (t' := 9) (x := (.tmp 30)) (y := (.tmp 37)) (a := r96) (b := r99) (v := r107) rfl rfl hr108) ?_
    refine Dvl [22, 23] [tt, tt, tt, tt, tt, tt, tt, tt, tt, tt, tt, tt, tt, tt, tt, tt, tt, tt, tt, tt, tt, tt, tt, tt] ?_
    obtain rfl := Aa h109
    exact SA (by kernel_rfl) ⟨F5, hs104.dr0.dr0, (le88.trans le105), fI⟩
   ·rintro f w52 ⟨F3, hs53, le54, ⟨_, rfl⟩⟩
    obtain rfl := Aa h61
    exact .inl ⟨rfl, F3, hs53, le54, fI⟩
  ·refine Sq (Rg [0, 1, 2, 3] ?_)
   refine Vs 1 ?_
   refine Ld hs36.at1 ?_
   refine Vs 2 ?_
   refine Nt ?_
   obtain ⟨j113, hj118, h119⟩ := bind_some h49
   refine So (fun f w => ∃ (F6 : Mem), HS w0 F0 w F6 [] /\ Sh F1 F6 /\ FI f [] [(1, (vi x1)), (5, (vi j113.1)), (6, (.string ⟨(j113.2).toArray⟩))]) ?_ ?_
   ·refine Cd hj118 (fun hb120 h121 => ?_) (fun hb120 h122 => ?_)
    ·refine Rg [0, 1, 2, 3] ?_
     refine Vs 1 ?_
     refine Ld hs36.at1 ?_
     obtain ⟨r123, hr124, h125⟩ := bind_some h121
     refine Cl' Gm hs36 (G7 N w35 F1 hs36.pers (hG.mono le30) x0.Value _ hr124) ?_
     rintro _ F7 w127 hs128 le129 rfl
     refine Vs 1 ?_
     refine Sd ?_
     obtain rfl := Aa h125
     exact .inl ⟨rfl, F7, hs128.dr0.dr0, le129, fI⟩
    ·refine Sq (Rg [0, 1, 2, 3] ?_)
     refine Vs 1 ?_
     refine Ld hs36.at1 ?_
     refine Vs 2 ?_
     refine Nt ?_
     obtain ⟨j134, hj139, h140⟩ := bind_some h122
     refine So (fun f w => ∃ (F8 : Mem), HS w0 F0 w F8 [] /\ Sh F1 F8 /\ FI f [] [(1, (vi x1)), (5, (vi j134.1)), (6, (.string ⟨(j134.2).toArray⟩))]) ?_ ?_
     ·refine Cd hj139 (fun hb141 h142 => ?_) (fun hb141 h143 => ?_)
      ·obtain ⟨j149, hj154, h155⟩ := bind_some h142
       refine RD 6 6 [(sb b32 (D3 r24.1) 173), (sb b21 (Ag x0 a0_2 n0_2) 33)] [] hs36 (fun f w => ∃ (F9 : Mem), HS w0 F0 w F9 [] /\ Sh F1 F9 /\ FI f [] [(1, (vi x1)), (5, (vi 7)), (6, (.string ⟨(j149).toArray⟩))]) (fun wd144 hw145 => ?_) ?_
       ·refine Dv [1] ?_
        refine Dl 2 (fun _ hq => (hq.1.2 1 _ _ rfl)) ?_
        refine D1 0 ?_
        obtain ⟨r156, hr157, h158⟩ := bind_some hj154
        refine DCl GV hw145 (HM N wd144 F1 hw145.pers  _ hr157) ?_
        rintro _ F10 w160 hs161 le162 ⟨ar156_0_0, nr156_0_0, rfl, hbr156_0_0, hsr156_0_0⟩
        obtain ⟨x164, hx165, h167⟩ := bind_some h158
        obtain ⟨hi166, hx165'⟩ := Ap hx165
        obtain ⟨b168, o169, C170, E171, fz172, rfl, hF174, hE175⟩ := Su hsr156_0_0 hx165'
        have hc177 := hE175 _ _ hx165'
        refine Di 3 hi166 ?_
        refine D1 4 ?_
        refine Sy (l' := [true, true, true, true, true, false]) (zd := true) (by kernel_rfl) (by kernel_rfl) (dst := (some 54)) (ty := 9) (g := none) (by kernel_rfl) rfl (Hj (t := 9) (x := (.tmp 53)) (b := b168) (o := (o169 + (x0.Value : Int).toNat * 1)) (j := 0) (C := C170) (kk := 1) (cs := [(.string ⟨(x164).toArray⟩)]) (gg := false) (s := 1) (v := (.string ⟨(x164).toArray⟩)) rfl (by kernel_rfl) (hs161.pers _ _ hF174) hc177 (by decide) (by exact ⟨rfl, trivial⟩) rfl rfl) (Bu hs161 le162 (by simp) (fun e => by cases e)) ?_
        refine Dv [5] ?_
        obtain rfl := Aa h167
        exact SA (by kernel_rfl) ⟨F10, hs161.dr0.dr0, le162, fI⟩
       ·rintro f w146 ⟨F9, hs147, le148, ⟨_, rfl⟩⟩
        obtain rfl := Aa h155
        exact .inl ⟨rfl, F9, hs147, le148, fI⟩
      ·refine Sq (Rg [0, 1, 2, 3] ?_)
       refine Vs 1 ?_
       refine Ld hs36.at1 ?_
       refine Vs 2 ?_
       refine Nt ?_
       obtain ⟨j181, hj186, h187⟩ := bind_some h143
       refine So (fun f w => ∃ (F11 : Mem), HS w0 F0 w F11 [] /\ Sh F1 F11 /\ FI f [] [(1, (vi x1)), (5, (vi j181.1)), (6, (.string ⟨(j181.2).toArray⟩))]) ?_ ?_
       ·refine Cd hj186 (fun hb188 h189 => ?_) (fun hb188 h190 => ?_)
        ·refine Rg [0, 1, 2, 3, 4, 5, 6, 7] ?_
         refine Vs 1 ?_
         refine Ld hs36.at1 ?_
         obtain ⟨x191, hx192, h194⟩ := bind_some h189
         obtain ⟨hi193, hx192'⟩ := Ap hx192
         obtain ⟨b195, o196, C197, E198, fz199, rfl, hF201, hE202⟩ := Su (Sk hs0_2 le30) hx192'
         obtain ⟨ae203_2, ne203_2, hc204, hbe203_2, hse203_2⟩ := (Az (hE202 _ _ hx192'))
         refine Ix hi193 ?_
         refine Lx 0 (hs36.pers _ _ hF201) hc204 ?_
         obtain ⟨r205, hr206, h207⟩ := bind_some h194
         refine Cl' A8 hs36 (hsR97 w35 F1 hs36.pers (hG.mono le30) x191 ae203_2 ne203_2 hbe203_2 hse203_2 3 _ hr206) ?_
         rintro _ F12 w209 hs210 le211 rfl
         obtain ⟨r213, hr214, h215⟩ := bind_some h207
         refine V 64 9 (AD (t := 9) (t' := 9) (x := (.const (.string ⟨([110, 111, 116, 32] : SF).toArray⟩))) (y := (.tmp 63)) (a := ([110, 111, 116, 32] : SF)) (b := r205) (v := r213) rfl rfl hr214) ?_
         refine Vs 2 ?_
         refine Sd ?_
         obtain rfl := Aa h215
         exact .inl ⟨rfl, F12, hs210.dr0.dr0, le211, fI⟩
        ·refine Sq (Rg [0, 1, 2, 3] ?_)
         refine Vs 1 ?_
         refine Ld hs36.at1 ?_
         refine Vs 2 ?_
         refine Nt ?_
         obtain ⟨j219, hj224, h225⟩ := bind_some h190
         refine So (fun f w => ∃ (F13 : Mem), HS w0 F0 w F13 [] /\ Sh F1 F13 /\ FI f [] [(1, (vi x1)), (5, (vi 7)), (6, (.string ⟨(j219).toArray⟩))]) ?_ ?_
         ·refine Cd hj224 (fun hb226 h227 => ?_) (fun hb226 h228 => ?_)
          ·obtain ⟨j234, hj239, h240⟩ := bind_some h227
           refine RD 22 22 [(sb b32 (D3 r24.1) 173), (sb b21 (Ag x0 a0_2 n0_2) 33)] [] hs36 (fun f w => ∃ (F14 : Mem), HS w0 F0 w F14 [] /\ Sh F1 F14 /\ FI f [] [(1, (vi x1)), (5, (vi 7)), (6, (.string ⟨(j234).toArray⟩))]) (fun wd229 hw230 => ?_) ?_
           ·refine Dvl [0] [tt, ff, ff, ff, ff, ff, ff, ff, ff, ff, ff, ff, ff, ff, ff, ff, ff, ff, ff, ff, ff, ff] ?_
            refine Dl 1 (fun _ hq => (hq.1.2 1 _ _ rfl)) ?_
            obtain ⟨x241, hx242, h244⟩ := bind_some hj239
            obtain ⟨hi243, hx242'⟩ := Ap hx242
            obtain ⟨b245, o246, C247, E248, fz249, rfl, hF251, hE252⟩ := Su (Sk hs0_2 le30) hx242'
            obtain ⟨ae253_2, ne253_2, hc254, hbe253_2, hse253_2⟩ := (Az (hE252 _ _ hx242'))
            refine Di 2 hi243 ?_
            refine Dx 3 0 (fun _ hq => hq.1.1 _ _ hF251) hc254 ?_
            refine Dvl [7] [tt, tt, tt, tt, ff, ff, ff, tt, ff, ff, ff, ff, ff, ff, ff, ff, ff, ff, ff, ff, ff, ff] ?_
            refine Dl 8 (fun _ hq => (hq.1.2 1 _ _ rfl)) ?_
            obtain ⟨x255, hx256, h258⟩ := bind_some h244
            obtain ⟨hi257, hx256'⟩ := Ap hx256
            obtain ⟨ae259_2, ne259_2, hc260, hbe259_2, hse259_2⟩ := (Az (hE252 _ _ hx256'))
            refine Di 9 hi257 ?_
            refine Dx 10 0 (fun _ hq => hq.1.1 _ _ hF251) hc260 ?_
            refine Dvl [14] [tt, tt, tt, tt, ff, ff, ff, tt, tt, tt, tt, ff, ff, ff, tt, ff, ff, ff, ff, ff, ff, ff] ?_
            refine Dl 15 (fun _ hq => (hq.1.2 1 _ _ rfl)) ?_
            obtain ⟨x261, hx262, h264⟩ := bind_some h258
            obtain ⟨hi263, hx262'⟩ := Ap hx262
            obtain ⟨ae265_2, ne265_2, hc266, hbe265_2, hse265_2⟩ := (Az (hE252 _ _ hx262'))
            refine Di 16 hi263 ?_
            refine Dx 17 0 (fun _ hq => hq.1.1 _ _ hF251) hc266 ?_
            refine D1 4 ?_
            obtain ⟨r267, hr268, h269⟩ := bind_some h264
            refine DCl A8 hw230 (hsR97 wd229 F1 hw230.pers (hG.mono le30) x241 ae253_2 ne253_2 hbe253_2 hse253_2 1 _ hr268) ?_
            rintro _ F15 w271 hs272 le273 rfl
            obtain ⟨r275, hr276, h277⟩ := bind_some h269
            refine Dtl 5 74 9 (.string ⟨(r275).toArray⟩) [tt, tt, tt, tt, tt, tt, ff, tt, tt, tt, tt, ff, ff, ff, tt, tt, tt, tt, ff, ff, ff, ff] (fun _ hq => AD (t := 9) (t' := 9) (x := (.const (.string ⟨([105, 102, 40] : SF).toArray⟩))) (y := (.tmp 73)) (a := ([105, 102, 40] : SF)) (b := r267) (v := r275) rfl rfl hr276) ?_
            obtain ⟨r278, hr279, h280⟩ := bind_some h277
            refine Dtl 6 75 9 (.string ⟨(r278).toArray⟩) [tt, tt, tt, tt, tt, tt, tt, tt, tt, tt, tt, ff, ff, ff, tt, tt, tt, tt, ff, ff, ff, ff] (fun _ hq => AD (t := 9) (t' := 9) (x := (.tmp 74)) (y := (.const (.string ⟨([44, 32] : SF).toArray⟩))) (a := r275) (b := ([44, 32] : SF)) (v := r278) rfl rfl hr279) ?_
            refine D1 11 ?_
            obtain ⟨r281, hr282, h283⟩ := bind_some h280
            refine DCl A8 hs272 (hsR97 w271 F15 hs272.pers (hG.mono (le30.trans le273)) x255 ae259_2 ne259_2 hbe259_2 (Sk hse259_2 le273) 1 _ hr282) ?_
            rintro _ F16 w285 hs286 le287 rfl
            obtain ⟨r289, hr290, h291⟩ := bind_some h283
            refine Dtl 12 81 9 (.string ⟨(r289).toArray⟩) [tt, tt, tt, tt, tt, tt, tt, tt, tt, tt, tt, tt, tt, ff, tt, tt, tt, tt, ff, ff, ff, ff] (fun _ hq => AD (t := 9) (t' := 9) (x := (.tmp 75)) (y := (.tmp 80)) (a := r278) (b := r281) (v := r289) rfl rfl hr290) ?_
            obtain ⟨r292, hr293, h294⟩ := bind_some h291
            refine Dtl 13 82 9 (.string ⟨(r292).toArray⟩) [tt, tt, tt, tt, tt, tt, tt, tt, tt, tt, tt, tt, tt, tt, tt, tt, tt, tt, ff, ff, ff, ff] (fun _ hq => AD (t := 9) (t' := 9) (x := (.tmp 81)) (y := (.const (.string ⟨([44, 32] : SF).toArray⟩))) (a := r289) (b := ([44, 32] : SF)) (v := r292) rfl rfl hr293) ?_
            refine D1 18 ?_
            obtain ⟨r295, hr296, h297⟩ := bind_some h294
            refine DCl A8 hs286 (hsR97 w285 F16 hs286.pers (hG.mono ((le30.trans le273).trans le287)) x261 ae265_2 ne265_2 hbe265_2 (Sk hse265_2 (le273.trans le287)) 1 _ hr296) ?_
            rintro _ F17 w299 hs300 le301 rfl
            obtain ⟨r303, hr304, h305⟩ := bind_some h297
            refine Dtl 19 88 9 (.string ⟨(r303).toArray⟩) [tt, tt, tt, tt, tt, tt, tt, tt, tt, tt, tt, tt, tt, tt, tt, tt, tt, tt, tt, tt, ff, ff] (fun _ hq => AD (t := 9) (t' := 9) (x := (.tmp 82)) (y := (.tmp 87)) (a := r292) (b := r295) (v := r303) rfl rfl hr304) ?_
            obtain ⟨r306, hr307, h308⟩ := bind_some h305
            refine Dtl 20 89 9 (.string ⟨(r306).toArray⟩) [tt, tt, tt, tt, tt, tt, tt, tt, tt, tt, tt, tt, tt, tt, tt, tt, tt, tt, tt, tt, tt, ff] (fun _ hq => AD (t := 9) (t' := 9) (x := (.tmp 88)) (y := (.const (.string ⟨([41] : SF).toArray⟩))) (a := r303) (b := ([41] : SF)) (v := r306) rfl rfl hr307) ?_
            refine Dvl [21] [tt, tt, tt, tt, tt, tt, tt, tt, tt, tt, tt, tt, tt, tt, tt, tt, tt, tt, tt, tt, tt, tt] ?_
            obtain rfl := Aa h308
            exact SA (by kernel_rfl) ⟨F17, hs300.dr0.dr0, ((le273.trans le287).trans le301), fI⟩
           ·rintro f w231 ⟨F14, hs232, le233, ⟨_, rfl⟩⟩
            obtain rfl := Aa h240
            exact .inl ⟨rfl, F14, hs232, le233, fI⟩
          ·refine Sc ?_
           obtain rfl := Aa h228
           exact .inl ⟨rfl, F1, hs36.dr0.dr0, (Si _), fI⟩
         ·rintro f w216 ⟨F13, hs217, le218, ⟨_, rfl⟩⟩
          obtain rfl := Aa h225
          exact .inl ⟨rfl, F13, hs217, le218, fI⟩
       ·rintro f w178 ⟨F11, hs179, le180, ⟨_, rfl⟩⟩
        obtain rfl := Aa h187
        exact .inl ⟨rfl, F11, hs179, le180, fI⟩
     ·rintro f w131 ⟨F8, hs132, le133, ⟨_, rfl⟩⟩
      obtain rfl := Aa h140
      exact .inl ⟨rfl, F8, hs132, le133, fI⟩
   ·rintro f w110 ⟨F6, hs111, le112, ⟨_, rfl⟩⟩
    obtain rfl := Aa h119
    exact .inl ⟨rfl, F6, hs111, le112, fI⟩
 ·rintro f w37 ⟨F2, hs38, le39, ⟨_, rfl⟩⟩
  refine Aq ?_
  refine Ac ?_
  refine Sq ?_
  refine Sq (Rg [0, 1, 2] ?_)
  refine Vs 3 ?_
  refine Nt ?_
  refine Cd h46 (fun hb309 h310 => ?_) (fun hb309 h311 => ?_)
  ·refine Sq (Rg [0, 1, 2, 3] ?_)
   refine Vs 1 ?_
   obtain ⟨r312, hr313, h314⟩ := bind_some h310
   refine V 94 9 (AD (t := 9) (t' := 9) (x := (.const (.string ⟨([40] : SF).toArray⟩))) (y := (.tmp 93)) (a := ([40] : SF)) (b := j40.2) (v := r312) rfl rfl hr313) ?_
   obtain ⟨r315, hr316, h317⟩ := bind_some h314
   refine V 95 9 (AD (t := 9) (t' := 9) (x := (.tmp 94)) (y := (.const (.string ⟨([41] : SF).toArray⟩))) (a := r312) (b := ([41] : SF)) (v := r315) rfl rfl hr316) ?_
   refine Vs 1 ?_
   refine Nt ?_
   refine Rt ?_
   refine Ae ?_
   obtain rfl := Aa h317
   exact Re [(.string ⟨(r315).toArray⟩)] hs38 rfl
  ·refine Sc ?_
   refine Ac ?_
   refine Sq (Rg [0, 1] ?_)
   refine Vs 2 ?_
   refine Nt ?_
   refine Rt ?_
   obtain rfl := Aa h311
   exact Re [(.string ⟨(j40.2).toArray⟩)] hs38 rfl
structure RK where
 q97 : Expr -> Int -> Option SF
def LU (N : Nat) : Nat -> RK
 | 0 => ⟨fun _ _ => none⟩
 | k + 1 => ⟨C2 N (LU N k).q97⟩
theorem M3 (N : Nat) : ∀ k, Od (LU N k).q97
 | 0 => (by unfold Od; intros; rename_i h; cases h)
 | k + 1 => by
  have ih := M3 N k
  exact @JF N (LU N k).q97 ih
def B6 (N : Nat) (x0 : Expr) (x1 : Int) : Option SF := (LU N N).q97 x0 x1
theorem C6 (N : Nat) (w0 : World) (F0 : Mem) (hF : SH w0 F0) (hG : B0 F0) (x0 : Expr) (a0_2 : SG) (n0_2 : Nat) (hb0_2 : LC x0.Kids.length n0_2) (hs0_2 : SlA Ao F0 a0_2 x0.Kids) (x1 : Int) (r : SF) (h : B6 N x0 x1 = some r) :
  Calls Tryz.prog 97 ([(.agg #[(.int .i64 x0.Op), (.int .i64 x0.Value), (.slice a0_2 x0.Kids.length n0_2)]), (.int .i64 x1)] : List Value).toArray w0 (AJ w0 F0 fun F' v => v = (.string ⟨(r).toArray⟩)) := (M3 N N) w0 F0 hF hG x0 a0_2 n0_2 hb0_2 hs0_2 x1 r h
def Ct (N : Nat) (x0 : Expr) : Option (SF × Int) :=
 ((C9 N x0).bind fun r24 => (bif (!r24) then some (([] : SF), 61) else ((B6 N x0 1).bind fun r35 => some (r35, 0))))
theorem EN : Al Tryz.prog 33 := fun _ _ => by kernel_rfl
theorem Fk (N : Nat) (w0 : World) (F0 : Mem) (hF : SH w0 F0) (hG : B0 F0) (x0 : Expr) (a0_2 : SG) (n0_2 : Nat) (hb0_2 : LC x0.Kids.length n0_2) (hs0_2 : SlA Ao F0 a0_2 x0.Kids) (r : (SF × Int)) (h : Ct N x0 = some r) :
  Calls Tryz.prog 33 ([(.agg (Ag x0 a0_2 n0_2))] : List Value).toArray w0 (AJ w0 F0 fun F' v => v = (.tuple #[(.string ⟨(r.1).toArray⟩), (vi r.2)])) := by
 have hs0 := Sj hF
 refine Go 9 Tryz.func33 ?_
 refine Sq (Rg [0, 1, 2] ?_)
 refine Bx' 33 (Ag x0 a0_2 n0_2) hs0 (fun b21 w22 hs23 => ?_)
 refine Vs 2 ?_
 refine Nss ?_
 refine Sq (Rg [0, 1, 2] ?_)
 refine Ld hs23.at0 ?_
 obtain ⟨r24, hr25, h26⟩ := bind_some h
 refine Cl' EM hs23 (FA N w22 F0 hs23.pers x0 a0_2 n0_2 hb0_2 hs0_2 _ hr25) ?_
 rintro _ F1 w28 hs29 le30 rfl
 refine Vs 1 ?_
 refine Nt ?_
 refine Cd h26 (fun hb32 h33 => ?_) (fun hb32 h34 => ?_)
 ·refine Sq (Rg [0, 1] ?_)
  refine Vs 2 ?_
  refine Nt ?_
  refine Rt ?_
  refine Ae ?_
  obtain rfl := Aa h33
  exact Re [(.string ⟨(([] : SF)).toArray⟩), (vi 61)] hs29 rfl
 ·refine Sc ?_
  refine Ac ?_
  refine Sq (Rg [0, 1, 2, 3] ?_)
  refine Ld hs29.at0 ?_
  obtain ⟨r35, hr36, h37⟩ := bind_some h34
  refine Cl' A8 hs29 (C6 N w28 F1 hs29.pers (hG.mono le30) x0 a0_2 n0_2 hb0_2 (Sk hs0_2 le30) 1 _ hr36) ?_
  rintro _ F2 w39 hs40 le41 rfl
  refine Vs 2 ?_
  refine Nt ?_
  refine Rt ?_
  obtain rfl := Aa h37
  exact Re [(.string ⟨(r35).toArray⟩), (vi 0)] hs40 rfl
def IV (m : ∀ {σ : Type}, (σ -> Ar -> Option (Bool × σ)) -> σ -> Option σ) : Option (List Ar) := m (fun st x => (Gh st [x]).map fun t => (true, t)) ([] : List Ar)
theorem Hq : Al Tryz.prog 179 := fun _ _ => by kernel_rfl
theorem H4 (w0 : World) (F0 : Mem) (hF : SH w0 F0) (gf : FuncId) (cap : List Value) (m : ∀ {σ : Type}, (σ -> Ar -> Option (Bool × σ)) -> σ -> Option σ) (hgf : Al Tryz.prog gf) (hseq : Nr Tryz.prog gf cap F0 [] Mv Ox Ov m) (r : (List Ar)) (h : IV m = some r) :
  Calls Tryz.prog 179 ([.slice none 0 0, (.func (.func gf) #[] cap.toArray)] : List Value).toArray w0 (AJ w0 F0 fun F' v => ∃ (aq0_0 : SG) (nq0_0 : Nat), v = (.slice aq0_0 r.length nq0_0) /\ LC r.length nq0_0 /\ SlA Af F' aq0_0 r) := by
 have hs0 := Sj hF
 refine O1 (n := 13) (c := B8 Tryz.f179) Tryz.func179 (by kernel_rfl) (by kernel_rfl) (by kernel_rfl) ?_
 refine Sq ?_
 refine Rg [0, 1] ?_
 refine RWP.box (dst := (some 2)) (ty := 0) (g := none) (by kernel_rfl) rfl (x := (.tmp 0)) (t := 98) (v := (.slice none ([] : List Ar).length 0)) rfl (C := #[(.slice none ([] : List Ar).length 0)]) rfl hs0 (fun b1 w2 (hs3 : HS w0 F0 w2 F0 [(some b1, (.cells #[(.slice none ([] : List Ar).length 0)] 98 (0, 0)))]) => ?_)
 refine V 4 98 (AB (x := (.const (.slice none 0 0))) (v := (.slice none ([] : List Ar).length 0)) rfl) ?_
 refine Sd ?_
 refine Ac ?_
 refine Sq ?_
 refine Sq ?_
 refine Rg [0] ?_
 refine V 6 162 (AO (x := (.tmp 1)) (v := (.func (.func gf) #[] cap.toArray)) rfl) ?_
 refine Sd ?_
 refine Ac ?_
 refine CWP.block (by kernel_rfl) ?_
 have hs4 : HS w0 F0 w2 F0 [(none, .cells #[] 0 (0, 0)), (some b1, (.cells #[(.slice none ([] : List Ar).length 0)] 98 (0, 0)))] := hs3.dummy _
 obtain ⟨r14, hr15, h16⟩ : ∃ r14, IV m = some r14 /\ some r14 = some r := ⟨r, h, rfl⟩
 refine CWP.rangeFunc (enc := Mv) (ok := Ox) (px := Ov) (m := fun {_} y s => m y s) (L := [(none, .cells #[] 0 (0, 0)), (some b1, (.cells #[(.slice none ([] : List Ar).length 0)] 98 (0, 0)))]) (B := []) (ps := [7]) (by kernel_rfl) (gf := gf) (cap := cap) rfl hgf rfl (by kernel_rfl) (by kernel_rfl) (fun _ => rfl) hs4 hseq (fun st x => (Gh st [x]).map fun t => (true, t)) (fun (s6 : (List Ar)) (F1 : Mem) (Lq : Own) => ∃ (as6_0 : SG) (ns6_0 : Nat) (es6_0 : Option Nat × Obj), Lq = [es6_0, (some b1, (.cells #[(.slice as6_0 s6.length ns6_0)] 98 (0, 0)))] /\ Aw Af 97 F1 as6_0 ns6_0 s6 es6_0) ?_ (s := ([] : List Ar)) (r := r14) ?_ hr15 (fun _ _ _ h => (Nc h).1) ?_ ?_
 ·
  rintro s F F' L ⟨as6_0, ns6_0, es6_0, rfl, hrs6_0⟩ hl
  exact ⟨as6_0, ns6_0, es6_0, rfl, (hrs6_0.mono hl)⟩
 ·
  exact ⟨none, 0, (none, .cells #[] 0 (0, 0)), rfl, (Aw.nil Af 97 F0 _)⟩
 ·
  rintro l17 s6 x19 w20 F1 _ Rf22 ⟨q0, q23⟩ le24 ok25 ⟨as6_0, ns6_0, es6_0, rfl, hrs6_0⟩ hs26 hy27
  have h28 := (Nc hy27).2
  have hs29 : HS w0 F0 w20 F1 (es6_0 :: (some b1, (.cells #[(.slice as6_0 s6.length ns6_0)] 98 (0, 0))) :: Rf22) := hs26
  refine Rg [0, 1] ?_
  refine Sr (dst := (some 5)) (ty := 0) (g := none) (by kernel_rfl) rfl (t := 97) (z := (.agg #[(.int .i64 0), (.int .i64 0), (.string ⟨(([] : SF)).toArray⟩)])) (by kernel_rfl) (C := #[(.int .i64 0), (.int .i64 0), (.string ⟨(([] : SF)).toArray⟩)]) rfl hs29 (fun b30 w31 (hs32 : HS w0 F0 w31 F1 ((some b30, (.cells #[(.int .i64 0), (.int .i64 0), (.string ⟨(([] : SF)).toArray⟩)] 97 (0, 0))) :: es6_0 :: (some b1, (.cells #[(.slice as6_0 s6.length ns6_0)] 98 (0, 0))) :: Rf22)) => ?_)
  refine St (ty := 0) (g := none) (by kernel_rfl) rfl (x := (.tmp 5)) (y := (.tmp 7)) (t := 97) (gg := true) (s := 3) (v := (.agg #[(.int .i64 x19.kind_), (.int .i64 x19.at_), (.string ⟨(x19.text_).toArray⟩)])) (b := b30) (o := 0) (C := #[(.int .i64 0), (.int .i64 0), (.string ⟨(([] : SF)).toArray⟩)]) rfl rfl (by kernel_rfl) hs32 (k := 0) rfl rfl rfl rfl (C' := #[(.int .i64 x19.kind_), (.int .i64 x19.at_), (.string ⟨(x19.text_).toArray⟩)]) rfl (fun w33 (hs34 : HS w0 F0 w33 F1 ((some b30, (.cells #[(.int .i64 x19.kind_), (.int .i64 x19.at_), (.string ⟨(x19.text_).toArray⟩)] 97 (0, 0))) :: es6_0 :: (some b1, (.cells #[(.slice as6_0 s6.length ns6_0)] 98 (0, 0))) :: Rf22)) => ?_)
  refine Sd ?_
  refine ⟨rfl, F1, [(some b30, (.cells #[(.int .i64 x19.kind_), (.int .i64 x19.at_), (.string ⟨(x19.text_).toArray⟩)] 97 (0, 0))), es6_0, (some b1, (.cells #[(.slice as6_0 s6.length ns6_0)] 98 (0, 0)))], hs34, fun w35 Rf36 hs37 => ?_⟩
  have hs38 : HS w0 F0 w35 F1 ((some b30, (.cells #[(.int .i64 x19.kind_), (.int .i64 x19.at_), (.string ⟨(x19.text_).toArray⟩)] 97 (0, 0))) :: es6_0 :: (some b1, (.cells #[(.slice as6_0 s6.length ns6_0)] 98 (0, 0))) :: Rf36) := hs37
  refine CWP.block (by kernel_rfl) ?_
  refine Rg [0, 1, 2, 3, 4] ?_
  refine V 8 98 (B1 (t := 98) (x := (.tmp 2)) (b := b1) (o := 0) (g := false) (s := 1) (C := #[(.slice as6_0 s6.length ns6_0)]) (v := (.slice as6_0 s6.length ns6_0)) rfl (by kernel_rfl) (hs38.ownAt (k := 2) rfl) rfl rfl rfl) ?_
  refine V 9 97 (B1 (t := 97) (x := (.tmp 5)) (b := b30) (o := 0) (g := true) (s := 3) (C := #[(.int .i64 x19.kind_), (.int .i64 x19.at_), (.string ⟨(x19.text_).toArray⟩)]) (v := (.agg #[(.int .i64 x19.kind_), (.int .i64 x19.at_), (.string ⟨(x19.text_).toArray⟩)])) rfl (by kernel_rfl) (hs38.ownAt (k := 0) rfl) rfl rfl rfl) ?_
  refine RWP.buildSlice (dst := (some 10)) (ty := 98) (g := none) (by kernel_rfl) rfl (t := 98) (len := 1) (parts := #[(0, (.tmp 9))]) (vs := [(0, (.agg #[(.int .i64 x19.kind_), (.int .i64 x19.at_), (.string ⟨(x19.text_).toArray⟩)]))]) (rfl) (E := 97) (cs := [(.int .i64 x19.kind_), (.int .i64 x19.at_), (.string ⟨(x19.text_).toArray⟩)]) (by kernel_rfl) hs38 (fun b39 w40 (hs41 : HS w0 F0 w40 F1 ((some b39, .cells ([(.int .i64 x19.kind_), (.int .i64 x19.at_), (.string ⟨(x19.text_).toArray⟩)] : List Value).toArray 97 (0, 0)) :: (some b30, (.cells #[(.int .i64 x19.kind_), (.int .i64 x19.at_), (.string ⟨(x19.text_).toArray⟩)] 97 (0, 0))) :: es6_0 :: (some b1, (.cells #[(.slice as6_0 s6.length ns6_0)] 98 (0, 0))) :: Rf36)) => ?_)
  have hr43 : Aw Af 97 F1 (some ⟨b39, 0, none⟩) 1 [x19] (some b39, .cells ([(.int .i64 x19.kind_), (.int .i64 x19.at_), (.string ⟨(x19.text_).toArray⟩)] : List Value).toArray 97 (0, 0)) := SC ⟨rfl, rfl⟩ (by simp)
  obtain ⟨r44, hap45, h46⟩ : ∃ r44, Gh s6 [x19] = some r44 /\ some r44 = some q23 := ⟨_, h28, rfl⟩
  refine RWP.append (dst := (some 11)) (ty := 98) (g := none) (by kernel_rfl) rfl (x := (.tmp 8)) (y := (.tmp 10)) (t := 98) (t2 := 98) (by_ := 32) (z := (.agg #[(.int .i64 0), (.int .i64 0), (.string ⟨(([] : SF)).toArray⟩)])) (a2 := (some ⟨b39, 0, none⟩)) (c2 := 1) (m := [x19]) (T := Af) (E := 97) (a := as6_0) (cap := ns6_0) (l := s6) rfl rfl (by kernel_rfl) (by decide) (by kernel_rfl) (by kernel_rfl) rfl Mm hs41 (k := 2) rfl hrs6_0 (Aw.rd hs41 (k := 0) rfl hr43) (r := r44) hap45 (fun a47 n48 e49 w50 (hs51 : HS w0 F0 w50 F1 ((some b39, .cells ([(.int .i64 x19.kind_), (.int .i64 x19.at_), (.string ⟨(x19.text_).toArray⟩)] : List Value).toArray 97 (0, 0)) :: (some b30, (.cells #[(.int .i64 x19.kind_), (.int .i64 x19.at_), (.string ⟨(x19.text_).toArray⟩)] 97 (0, 0))) :: e49 :: (some b1, (.cells #[(.slice as6_0 s6.length ns6_0)] 98 (0, 0))) :: Rf36)) hr52 => ?_)
  refine St (ty := 0) (g := none) (by kernel_rfl) rfl (x := (.tmp 2)) (y := (.tmp 11)) (t := 98) (gg := false) (s := 1) (v := (.slice a47 r44.length n48)) (b := b1) (o := 0) (C := #[(.slice as6_0 s6.length ns6_0)]) rfl rfl (by kernel_rfl) hs51 (k := 3) rfl rfl rfl rfl (C' := #[(.slice a47 r44.length n48)]) rfl (fun w53 (hs54 : HS w0 F0 w53 F1 ((some b39, .cells ([(.int .i64 x19.kind_), (.int .i64 x19.at_), (.string ⟨(x19.text_).toArray⟩)] : List Value).toArray 97 (0, 0)) :: (some b30, (.cells #[(.int .i64 x19.kind_), (.int .i64 x19.at_), (.string ⟨(x19.text_).toArray⟩)] 97 (0, 0))) :: e49 :: (some b1, (.cells #[(.slice a47 r44.length n48)] 98 (0, 0))) :: Rf36)) => ?_)
  refine Sd ?_
  refine Aq ?_
  have hs56 : HS w0 F0 w53 F1 (e49 :: (some b1, (.cells #[(.slice a47 r44.length n48)] 98 (0, 0))) :: Rf36) := (hs54.drop 0).drop 0
  obtain rfl := Aa h46
  exact ⟨rfl, F1, [e49, (some b1, (.cells #[(.slice a47 r44.length n48)] 98 (0, 0)))], hs56, (Si _), ⟨a47, n48, e49, rfl, hr52⟩⟩
 ·
  rintro D58 w59 F2 _ hs60 le61 ⟨as10_0, ns10_0, es10_0, rfl, hrs10_0⟩
  have hs62 : HS w0 F0 w59 F2 [(some D58, (.deferred (some []))), es10_0, (some b1, (.cells #[(.slice as10_0 r14.length ns10_0)] 98 (0, 0)))] := hs60
  refine Aq ?_
  refine Ac ?_
  refine Sq ?_
  refine Rg [0, 1] ?_
  refine V 12 98 (B1 (t := 98) (x := (.tmp 2)) (b := b1) (o := 0) (g := false) (s := 1) (C := #[(.slice as10_0 r14.length ns10_0)]) (v := (.slice as10_0 r14.length ns10_0)) rfl (by kernel_rfl) (hs62.ownAt (k := 2) rfl) rfl rfl rfl) ?_
  refine V 4 98 (AB (x := (.tmp 12)) (v := (.slice as10_0 r14.length ns10_0)) rfl) ?_
  refine Sd ?_
  refine Ac ?_
  refine CWP.ret (by kernel_rfl) ?_
  have hb66 := SB hrs10_0
  obtain ⟨F3, hs63, le64, hs65⟩ : ∃ Fq, HS w0 F0 w59 Fq [(some D58, (.deferred (some []))), (some b1, (.cells #[(.slice as10_0 r14.length ns10_0)] 98 (0, 0)))] /\ Sh F2 Fq /\ SlA Af Fq as10_0 r14 := HS.freezeRow hs62 (k := 1) rfl hrs10_0
  have hs67 := hs63.put (k := 0) rfl (.deferred none)
  have hs68 : HS w0 F0 (Ch w59 D58 (.deferred none)) F3 [(some b1, (.cells #[(.slice as10_0 r14.length ns10_0)] 98 (0, 0)))] := hs67.drop 0
  have hfin := Aa h16
  subst hfin
  exact .inr ⟨D58, rfl, hs63.ownAt (k := 0) rfl, (.slice as10_0 r14.length ns10_0), AC (l := [.tmp 4]) (by kernel_rfl) (vs := [(.slice as10_0 r14.length ns10_0)]) ⟨rfl, trivial⟩, (.slice as10_0 r14.length ns10_0), F3, rfl, hs68.clear, ⟨as10_0, ns10_0, rfl, hb66, hs65⟩⟩
theorem IW : Al Tryz.prog 132 := fun _ _ => by kernel_rfl
set_option maxRecDepth 100000 in
theorem Jy (w0 : World) (F0 : Mem) (hF : SH w0 F0) (gf : FuncId) (cap : List Value) (m : ∀ {σ : Type}, (σ -> Ar -> Option (Bool × σ)) -> σ -> Option σ) (hgf : Al Tryz.prog gf) (hseq : Nr Tryz.prog gf cap F0 [] Mv Ox Ov m) (r : (List Ar)) (h : IV m = some r) :
  Calls Tryz.prog 132 ([(.func (.func gf) #[] cap.toArray)] : List Value).toArray w0 (AJ w0 F0 fun F' v => ∃ (aq0_0 : SG) (nq0_0 : Nat), v = (.slice aq0_0 r.length nq0_0) /\ LC r.length nq0_0 /\ SlA Af F' aq0_0 r) := by
 have hs0 := Sj hF
 refine ET (n := 5) (c := B8 Tryz.f132) Tryz.func132 (by kernel_rfl) (by kernel_rfl) (by kernel_rfl) ?_
 refine Sq ?_
 refine Rg [0] ?_
 refine V 2 98 (AB (x := (.const (.slice none 0 0))) (v := (.slice none 0 0)) rfl) ?_
 refine Sd ?_
 refine Ac ?_
 refine Sq ?_
 refine Rg [0, 1, 2] ?_
 refine V 3 162 (AO (x := (.tmp 0)) (v := (.func (.func gf) #[] cap.toArray)) rfl) ?_
 refine RWP.call (dst := (some 4)) (ty := 98) (g := none) (by kernel_rfl) rfl (f0 := (.func 179)) (aos := #[(.const (.slice none 0 0)), (.tmp 3)]) (ats := #[98, 162]) (fid := 179) (first := #[]) (cap := #[]) (args := [.slice none 0 0, (.func (.func gf) #[] cap.toArray)]) rfl Hq rfl hs0 (H4 w0 F0 hs0.pers gf cap m hgf hseq r h) ?_
 intro v F1 w1 hs1 le1 hp
 obtain ⟨a, n, rfl, hb, hs⟩ := hp
 refine V 2 98 (AB (x := (.tmp 4)) (v := (.slice a r.length n)) rfl) ?_
 refine Sd ?_
 refine Ac ?_
 refine CWP.ret (by kernel_rfl) ?_
 exact ⟨rfl, (.slice a r.length n), AC (l := [.tmp 2]) (by kernel_rfl) (vs := [(.slice a r.length n)]) ⟨rfl, trivial⟩, _, F1, rfl, hs1, a, n, rfl, hb, hs⟩
theorem JY : Al Tryz.prog 133 := fun _ _ => by kernel_rfl
set_option maxRecDepth 100000 in
theorem K3 (w0 : World) (F0 : Mem) (hF : SH w0 F0) (x0 : SF) :
  Calls Tryz.prog 133 ([(.string ⟨(x0).toArray⟩)] : List Value).toArray w0 (AJ w0 F0 fun F' v => ∃ (b1 b2 : Nat), v = .func (.func 181) #[] #[.pointer (some ⟨b1, 0, none⟩), .pointer (some ⟨b2, 0, none⟩)] /\ F' b1 = some (.cells #[(.string ⟨(x0).toArray⟩)] 9 (0, 0)) /\ F' b2 = some (.cells #[.func (.func 180) #[] #[.pointer (some ⟨b1, 0, none⟩)]] 193 (0, 0))) := by
 have hs0 := Sj hF
 refine ET (n := 6) (c := B8 Tryz.f133) Tryz.func133 (by kernel_rfl) (by kernel_rfl) (by kernel_rfl) ?_
 refine Sq ?_
 refine Rg [0, 1] ?_
 refine RWP.box (dst := (some 1)) (ty := 0) (g := none) (by kernel_rfl) rfl (x := (.tmp 0)) (t := 9) (v := (.string ⟨(x0).toArray⟩)) rfl (C := #[(.string ⟨(x0).toArray⟩)]) rfl hs0 (fun b1 w1 hs1 => ?_)
 refine V 2 162 (AB (x := (.const .nilFunc)) (v := .nilFunc) rfl) ?_
 refine Sd ?_
 refine Ac ?_
 refine Sq ?_
 refine Rg [0, 1, 2] ?_
 refine V 4 193 (CQ (fn := .func 180) (first := #[]) (cap := #[.tmp 1]) (fl := []) (cl := [.pointer (some ⟨b1, 0, none⟩)]) rfl rfl) ?_
 refine Sr (dst := (some 3)) (ty := 0) (g := none) (by kernel_rfl) rfl (t := 193) (z := .nilFunc) (by kernel_rfl) (C := #[.nilFunc]) rfl hs1 (fun b2 w2 hs2 => ?_)
 refine St (ty := 0) (g := none) (by kernel_rfl) rfl (x := (.tmp 3)) (y := (.tmp 4)) (t := 193) (gg := false) (s := 1) (v := .func (.func 180) #[] #[.pointer (some ⟨b1, 0, none⟩)]) (b := b2) (o := 0) (C := #[.nilFunc]) rfl rfl (by kernel_rfl) hs2 (k := 0) rfl rfl rfl rfl (C' := #[.func (.func 180) #[] #[.pointer (some ⟨b1, 0, none⟩)]]) rfl (fun w3 (hs3 : HS w0 F0 w3 F0 [(some b2, .cells #[.func (.func 180) #[] #[.pointer (some ⟨b1, 0, none⟩)]] 193 (0, 0)), (some b1, .cells #[(.string ⟨(x0).toArray⟩)] 9 (0, 0))]) => ?_)
 refine Sd ?_
 refine Ac ?_
 refine Sq ?_
 refine Rg [0, 1] ?_
 refine V 5 161 (CQ (fn := .func 181) (first := #[]) (cap := #[.tmp 1, .tmp 3]) (fl := []) (cl := [.pointer (some ⟨b1, 0, none⟩), .pointer (some ⟨b2, 0, none⟩)]) rfl rfl) ?_
 refine V 2 162 (AB (x := (.tmp 5)) (v := .func (.func 181) #[] #[.pointer (some ⟨b1, 0, none⟩), .pointer (some ⟨b2, 0, none⟩)]) rfl) ?_
 refine Sd ?_
 refine Ac ?_
 refine CWP.ret (by kernel_rfl) ?_
 obtain ⟨F1, hs4, le1, hF1⟩ : ∃ Fq, HS w0 F0 w3 Fq [(some b1, .cells #[(.string ⟨(x0).toArray⟩)] 9 (0, 0))] /\ Sh F0 Fq /\ Fq b2 = some _ := HS.freezeC hs3 (k := 0) rfl
 obtain ⟨F2, hs5, le2, hF2⟩ : ∃ Fq, HS w0 F0 w3 Fq [] /\ Sh F1 Fq /\ Fq b1 = some _ := HS.freezeC hs4 (k := 0) rfl
 exact ⟨rfl, _, AC (l := [.tmp 2]) (by kernel_rfl) (vs := [.func (.func 181) #[] #[.pointer (some ⟨b1, 0, none⟩), .pointer (some ⟨b2, 0, none⟩)]]) ⟨rfl, trivial⟩, _, F2, rfl, hs5, b1, b2, rfl, hF2, le2 _ _ hF1⟩
def E3 (N : Nat) (x0 : Int) (x1 : Int) (x2 : Int) (z0 : SF) : Int -> Option (Bi SF Int) := fun s24 =>
 ((bif (decide (s24 < (z0.length : Int))) then ((Pf z0 s24).bind fun c64 => (bif (decide (x1 <= c64)) then ((Pf z0 s24).bind fun c70 => some (decide (c70 <= x2))) else some false)) else some false).bind fun j51 => (bif j51 then some (.next (W64 (s24 + 1))) else some (.done s24)))
def CH (N : Nat) (x0 : Int) (x1 : Int) (x2 : Int) (z0 : SF) : Option SF :=
 ((A0 (E3 N x0 x1 x2 z0) N x0).bind fun o => o.k (fun r => some r) (fun s34 => ((Pd z0 x0 s34).bind fun r79 => some r79)))
theorem IY : Al Tryz.prog 180 := fun _ _ => by kernel_rfl
theorem JA (N : Nat) (w0 : World) (F0 : Mem) (hF : SH w0 F0) (x0 : Int) (x1 : Int) (x2 : Int) (bz0 : Nat) (z0 : SF) (hz0 : F0 bz0 = some (oc #[(.string ⟨(z0).toArray⟩)] 9)) (r : SF) (h : CH N x0 x1 x2 z0 = some r) :
  Calls Tryz.prog 180 ([(vi x0), (.int .u8 x1), (.int .u8 x2), (pt bz0 0)] : List Value).toArray w0 (AJ w0 F0 fun F' v => v = (.string ⟨(r).toArray⟩)) := by
 have hs0 := Sj hF
 refine Go 34 Tryz.func180 ?_
 refine Sq (Rg [0] ?_)
 refine Vs 1 ?_
 refine Nss (Rg [0, 1] ?_)
 refine Vs 2 ?_
 refine Nss ?_
 obtain ⟨o21, ho22, h23⟩ := bind_some h
 refine So (fun f w => ∃ (s34 : Int) (F2 : Mem), o21 = .done s34 /\ HS w0 F0 w F2 [] /\ Sh F0 F2 /\ FI f [] [(0, (vi x0)), (3, (pt bz0 0)), (8, (vi s34))]) ?_ ?_
 ·refine Bk ?_
  refine Sg (by kernel_rfl) (fun m f w => ∃ (s24 : Int) (F1 : Mem), A0 (E3 N x0 x1 x2 z0) m s24 = some o21 /\ HS w0 F0 w F1 [] /\ Sh F0 F1 /\ FI f [] [(0, (vi x0)), (1, (.int .u8 x1)), (2, (.int .u8 x2)), (3, (pt bz0 0)), (8, (vi s24))]) N ⟨x0, F0, ho22, hs0, (Si _), fI⟩ ?_
  rintro m42 f w25 ⟨s24, F1, hit43, hs26, le27, ⟨_, rfl⟩⟩
  obtain ⟨m44, fl45, rfl, hb46, hnx47⟩ := AQ hit43
  refine Sq ?_
  refine Sq (Rg [0, 1, 2, 3, 4, 5, 6, 7, 8, 9, 10, 11, 12, 13, 14, 15, 16, 17] ?_)
  obtain ⟨j51, hj59, h60⟩ := bind_some hb46
  refine Sn (fun f w => ∃ (F3 : Mem), HS w0 F0 w F3 [] /\ Sh F1 F3 /\ FI f [] [(0, (vi x0)), (1, (.int .u8 x1)), (2, (.int .u8 x2)), (3, (pt bz0 0)), (8, (vi s24)), (27, (.bool j51))]) ?_ ?_
  ·refine Vs 1 ?_
   refine Ld (hs26.pers _ _ (le27 _ _ hz0)) ?_
   refine Vs 3 ?_
   refine Sp hj59 (fun hb61 h62 => ?_) (fun hb61 h63 => ?_)
   ·refine Vgs hb61 1 ?_
    refine Lg hb61 (hs26.pers _ _ (le27 _ _ hz0)) ?_
    refine Vgs hb61 1 ?_
    obtain ⟨c64, hr65, h66⟩ := bind_some h62
    refine Vg 18 5 4 true 14 hb61 (Ks (t := 9) (x := (.tmp 16)) (y := (.tmp 17)) (a := z0) (k := .i64) (i := s24) (v := c64) rfl rfl (by kernel_rfl) hr65) ?_
    refine Vgs hb61 1 ?_
    refine Pk1 hb61 ?_
    refine Vs 1 ?_
    refine Sp h66 (fun hb67 h68 => ?_) (fun hb67 h69 => ?_)
    ·refine Lg hb67 (hs26.pers _ _ (le27 _ _ hz0)) ?_
     refine Vgs hb67 1 ?_
     obtain ⟨c70, hr71, h72⟩ := bind_some h68
     refine Vg 24 5 11 true 21 hb67 (Ks (t := 9) (x := (.tmp 22)) (y := (.tmp 23)) (a := z0) (k := .i64) (i := s24) (v := c70) rfl rfl (by kernel_rfl) hr71) ?_
     refine Vgs hb67 2 ?_
     refine Pk1 hb67 ?_
     obtain rfl := Aa h72
     exact Sd ⟨rfl, F1, hs26, (Si _), fI⟩
    ·refine Ss hb67 5 ?_
     refine Pk0 hb67 ?_
     obtain rfl := Aa h69
     exact Sd ⟨rfl, F1, hs26, (Si _), fI⟩
   ·refine Ss hb61 5 ?_
    refine Pk0 hb61 ?_
    refine Vs 1 ?_
    refine Ss (rfl : false = false) 5 ?_
    refine Pk0 (rfl : false = false) ?_
    obtain rfl := Aa h63
    exact Sd ⟨rfl, F1, hs26, (Si _), fI⟩
  ·rintro f w48 ⟨F3, hs49, le50, ⟨_, rfl⟩⟩
   refine Ac ?_
   refine Cd h60 (fun hb73 h74 => ?_) (fun hb73 h75 => ?_)
   ·refine Sc ?_
    refine Ac ?_
    refine Bk ?_
    refine Rg [0, 1, 2] ?_
    refine Vs 3 ?_
    refine Sd ?_
    refine Aq ?_
    have hn76 := AM h74 hnx47
    exact ⟨m44, Nat.lt_succ_self _, (W64 (s24 + 1)), F3, hn76, hs49, (le27.trans le50), fI⟩
   ·refine Ex ?_
    refine Av ?_
    refine Av ?_
    refine AE rfl ?_
    have ho77 := AX h75 hnx47
    exact .inl ⟨rfl, s24, F3, ho77, hs49, (le27.trans le50), fI⟩
 ·rintro f w35 ⟨s34, F2, rfl, hs36, le37, ⟨_, rfl⟩⟩
  have h78 := Bo h23
  refine Ac ?_
  refine Sq (Rg [0, 1, 2, 3, 4] ?_)
  refine Ld (hs36.pers _ _ (le37 _ _ hz0)) ?_
  refine Vs 2 ?_
  obtain ⟨r79, hr80, h81⟩ := bind_some h78
  refine V 33 9 (Kr (t := 9) (x := (.tmp 30)) (lo := (some (.tmp 31))) (hi := (some (.tmp 32))) (a := z0) (il := x0) (ih := s34) (v := r79) rfl (by kernel_rfl) rfl rfl hr80) ?_
  refine Vs 1 ?_
  refine Nt ?_
  refine Rt ?_
  obtain rfl := Aa h81
  exact Re [(.string ⟨(r79).toArray⟩)] hs36 rfl
def E1 {σ : Type} (N : Nat) (y : (σ -> Ar -> Option (Bool × σ))) (z0 : SF) (z1 : (Int -> Int -> Int -> Option SF)) (s : σ) : (Int × σ) -> Option (Bi σ (Int × σ)) := fun s4 =>
 (bif (decide (s4.1 < (z0.length : Int))) then ((Pd z0 s4.1 (W64 (s4.1 + 1))).bind fun r33 => ((Pf z0 s4.1).bind fun c41 => (bif ((c41 == 32) || (c41 == 9)) then some (.next ((W64 (s4.1 + 1)), s4.2)) else ((bif ((decide (c41 >= 48)) && (decide (c41 <= 57))) then ((z1 s4.1 48 57).bind fun r87 => some (1, r87)) else ((bif ((decide (c41 >= 97)) && (decide (c41 <= 122))) then ((z1 s4.1 97 122).bind fun r126 => some (2, r126)) else ((Pd z0 s4.1 (z0.length : Int)).bind fun r138 => ((strings_HasPrefix N r138 ([61, 62] : SF)).bind fun r141 => ((bif r141 then some (3, ([61, 62] : SF)) else ((strings_IndexByte N ([40, 41, 44, 58, 61, 60, 43, 45, 42, 10] : SF) c41).bind fun r168 => ((bif (decide (r168 >= 0)) then some 3 else some 4).bind fun j179 => some (j179, r33)))).bind fun j152 => some (j152.1, j152.2))))).bind fun j114 => some (j114.1, j114.2))).bind fun j75 => ((y s4.2 ({ kind_ := j75.1, at_ := s4.1, text_ := j75.2 } : Ar)).bind fun q193 => (bif (!q193.1) then some (.ret q193.2) else some (.next ((W64 (s4.1 + (j75.2.length : Int))), q193.2)))))))) else some (.done (s4.1, s4.2)))
def EH {σ : Type} (N : Nat) (y : σ -> Ar -> Option (Bool × σ)) (z0 : SF) (z1 : (Int -> Int -> Int -> Option SF)) (s : σ) : Option σ :=
 ((A0 (E1 N y z0 z1 s) N (0, s)).bind fun o => o.k (fun r => some r) (fun s15 => ((y s15.2 ({ kind_ := 0, at_ := (z0.length : Int), text_ := ([] : SF) } : Ar)).bind fun q208 => some q208.2)))
theorem IX : Al Tryz.prog 181 := fun _ _ => by kernel_rfl
theorem Jz (N : Nat) (F0 : Mem) (z0 : SF) (bz0 : Nat) (hz0 : F0 bz0 = some (oc #[(.string ⟨(z0).toArray⟩)] 9)) (z1 : (Int -> Int -> Int -> Option SF)) (gz1_0 : FuncId) (fz1_0 : List Value) (kz1_0 : List Value) (hoz1_0 : Al Tryz.prog gz1_0) (hpz1_0 : OI F0 gz1_0 fz1_0 kz1_0 z1) (bz1 : Nat) (hz1 : F0 bz1 = some (oc #[(.func (.func gz1_0) fz1_0.toArray kz1_0.toArray)] 193)) :
  Nr Tryz.prog 181 [(pt bz0 0), (pt bz1 0)] F0 [] Mv Ox Ov (fun {_} y s => EH N y z0 z1 s) := by
 intro σ wb w0 Fb F1 l y J s r Lf le01 hJm hs0 hJ hY h
 have hs0 : HS wb Fb w0 F1 Lf := hs0
 refine ET (n := 80) (c := B8 Tryz.f181) Tryz.func181 (by kernel_rfl) (by kernel_rfl) (by kernel_rfl) ?_
 refine Sq ?_
 refine Sq (Rg [0] ?_)
 refine Vs 1 ?_
 refine Nt ?_
 obtain ⟨o1, ho2, h3⟩ := bind_some h
 refine So (fun f w => ∃ (s15 : (Int × σ)) (F3 : Mem) (Lf19 : Own), o1 = .done s15 /\ HS wb Fb w F3 Lf19 /\ Sh F1 F3 /\ FI f [] [(0, (.func (.yield l) #[] #[])), (1, (pt bz0 0))] /\ J s15.2 F3 Lf19) ?_ ?_
 ·refine Bk ?_
  refine Sg (by kernel_rfl) (fun m f w => ∃ (s4 : (Int × σ)) (F2 : Mem) (Lf8 : Own), A0 (E1 N y z0 z1 s) m s4 = some o1 /\ HS wb Fb w F2 Lf8 /\ Sh F1 F2 /\ FI f [] [(0, (.func (.yield l) #[] #[])), (1, (pt bz0 0)), (2, (pt bz1 0)), (4, (vi s4.1))] /\ J s4.2 F2 Lf8) N ⟨(0, s), F1, Lf, ho2, hs0, (Si _), fI, hJ⟩ ?_
  rintro m24 f w5 ⟨s4, F2, Lf8, hit25, hs6, le7, ⟨_, rfl⟩, hJ9⟩
  obtain ⟨m26, fl27, rfl, hb28, hnx29⟩ := AQ hit25
  refine Sq ?_
  refine Sq (Rg [0, 1, 2, 3] ?_)
  refine Vs 1 ?_
  refine Ld (hs6.pers _ _ ((le01.trans le7) _ _ hz0)) ?_
  refine Vs 1 ?_
  refine Vs 1 ?_
  refine Nt ?_
  refine Cd hb28 (fun hb30 h31 => ?_) (fun hb30 h32 => ?_)
  ·refine Sc ?_
   refine Ac ?_
   refine Bk ?_
   refine Sq (Rg [0, 1, 2, 3, 4, 5, 6, 7, 8] ?_)
   refine Vs 1 ?_
   refine Ld (hs6.pers _ _ ((le01.trans le7) _ _ hz0)) ?_
   refine Vs 1 ?_
   refine Vs 1 ?_
   refine Vs 1 ?_
   obtain ⟨r33, hr34, h35⟩ := bind_some h31
   refine V 16 9 (Kr (t := 9) (x := (.tmp 12)) (lo := (some (.tmp 13))) (hi := (some (.tmp 15))) (a := z0) (il := s4.1) (ih := (W64 (s4.1 + 1))) (v := r33) rfl (by kernel_rfl) rfl rfl hr34) ?_
   refine Vs 1 ?_
   refine Al' 97 #[(vi 0), (vi 0), (.string ⟨(([] : SF)).toArray⟩)] hs6 (fun b36 w37 hs38 => ?_)
   refine St0 #[(vi 4), (vi s4.1), (.string ⟨(r33).toArray⟩)] hs38 (fun w39 hs40 => ?_)
   refine Nss ?_
   refine Sq (Rg [0, 1, 2, 3] ?_)
   refine Ld (hs40.pers _ _ ((le01.trans le7) _ _ hz0)) ?_
   refine Vs 1 ?_
   obtain ⟨c41, hr42, h43⟩ := bind_some h35
   refine V 20 5 (Ks (t := 9) (x := (.tmp 18)) (y := (.tmp 19)) (a := z0) (k := .i64) (i := s4.1) (v := c41) rfl rfl (by kernel_rfl) hr42) ?_
   refine Vs 1 ?_
   refine Nt ?_
   refine Bk ?_
   refine Sq (Rg [0, 1, 2, 3, 4, 5, 6] ?_)
   refine Sn (fun f w => ∃ (F4 : Mem), HS wb Fb w F4 ((sb b36 #[(vi 4), (vi s4.1), (.string ⟨(r33).toArray⟩)] 97) :: Lf8) /\ Sh F2 F4 /\ FI f [] [(0, (.func (.yield l) #[] #[])), (1, (pt bz0 0)), (2, (pt bz1 0)), (4, (vi s4.1)), (5, (pt b36 0)), (6, (.int .u8 c41)), (21, (.bool ((c41 == 32) || (c41 == 9))))]) ?_ ?_
   ·refine Vs 1 ?_
    refine Vs 1 ?_
    refine Vs 1 ?_
    refine Sm (c41 == 32) (fun hb55 => ?_) (fun hb55 => ?_)
    ·refine Ss hb55 1 ?_--2
     refine Ss hb55 1 ?_--2
     refine Pk1 hb55 ?_
     refine Vs 1 ?_
     exact Sd ⟨rfl, F2, hs40, (Si _), (fJ ⟨rfl, rfl, rfl, rfl, rfl, rfl, (congrArg Value.bool (FL hb55 rfl)), trivial⟩)⟩
    ·refine Vgs hb55 1 ?_--2
     refine Vgs hb55 1 ?_--2
     refine Pk0 hb55 ?_
     refine Vs 1 ?_
     exact Sd ⟨rfl, F2, hs40, (Si _), (fJ ⟨rfl, rfl, rfl, rfl, rfl, rfl, (congrArg Value.bool (BQ hb55 rfl)), trivial⟩)⟩
   ·rintro f w44 ⟨F4, hs45, le46, ⟨_, rfl⟩⟩
    refine Ac ?_
    refine Cd h43 (fun hb56 h57 => ?_) (fun hb56 h58 => ?_)
    ·refine Sq (Rg [0, 1, 2] ?_)
     refine Vs 1 ?_
     refine Vs 1 ?_
     refine Vs 1 ?_
     refine Nt ?_
     refine Ex ?_
     refine Nn (by decide) ?_
     refine Av ?_
     refine AE rfl ?_
     have hn59 := AM h57 hnx29
     exact ⟨m26, Nat.lt_succ_self _, ((W64 (s4.1 + 1)), s4.2), F4, Lf8, hn59, hs45.dr0, (le7.trans le46), fI, (hJm _ _ _ _ hJ9 le46)⟩
    ·refine Sq (Rg [0, 1, 2, 3, 4, 5, 6] ?_)
     refine Sn (fun f w => ∃ (F5 : Mem), HS wb Fb w F5 ((sb b36 #[(vi 4), (vi s4.1), (.string ⟨(r33).toArray⟩)] 97) :: Lf8) /\ Sh F4 F5 /\ FI f [] [(0, (.func (.yield l) #[] #[])), (1, (pt bz0 0)), (2, (pt bz1 0)), (4, (vi s4.1)), (5, (pt b36 0)), (6, (.int .u8 c41)), (30, (.bool ((decide (c41 >= 48)) && (decide (c41 <= 57)))))]) ?_ ?_
     ·refine Vs 1 ?_
      refine Vs 1 ?_
      refine Vs 1 ?_
      refine Sm (decide (c41 >= 48)) (fun hb71 => ?_) (fun hb71 => ?_)
      ·refine Vgs hb71 1 ?_--2
       refine Vgs hb71 1 ?_--2
       refine Pk1 hb71 ?_
       refine Vs 1 ?_
       exact Sd ⟨rfl, F4, hs45, (Si _), (fJ ⟨rfl, rfl, rfl, rfl, rfl, rfl, (congrArg Value.bool (BL hb71 rfl)), trivial⟩)⟩
      ·refine Ss hb71 1 ?_--2
       refine Ss hb71 1 ?_--2
       refine Pk0 hb71 ?_
       refine Vs 1 ?_
       exact Sd ⟨rfl, F4, hs45, (Si _), (fJ ⟨rfl, rfl, rfl, rfl, rfl, rfl, (congrArg Value.bool (Dz hb71 rfl)), trivial⟩)⟩
     ·rintro f w60 ⟨F5, hs61, le62, ⟨_, rfl⟩⟩
      refine Ac ?_
      obtain ⟨j75, hj82, h83⟩ := bind_some h58
      refine So (fun f w => ∃ (F6 : Mem), HS wb Fb w F6 ((sb b36 #[(vi j75.1), (vi s4.1), (.string ⟨(j75.2).toArray⟩)] 97) :: Lf8) /\ Sh F5 F6 /\ FI f [] [(0, (.func (.yield l) #[] #[])), (1, (pt bz0 0)), (2, (pt bz1 0)), (4, (vi s4.1)), (5, (pt b36 0))]) ?_ ?_
      ·refine Cd hj82 (fun hb84 h85 => ?_) (fun hb84 h86 => ?_)
       ·refine Rg [0, 1, 2, 3, 4, 5, 6] ?_
        refine Ld (hs61.pers _ _ ((((le01.trans le7).trans le46).trans le62) _ _ hz1)) ?_
        refine Vs 1 ?_
        obtain ⟨r87, hr88, h89⟩ := bind_some h85
        refine Cq hoz1_0 hs61 (hpz1_0 w60 F5 s4.1 48 57 _ (((le01.trans le7).trans le46).trans le62) hs61.pers hr88) ?_
        rintro _ F7 w91 hs92 le93 rfl
        refine Vs 1 ?_
        refine St0 #[(vi 1), (vi s4.1), (.string ⟨(r33).toArray⟩)] hs92 (fun w95 hs96 => ?_)
        refine Vs 1 ?_
        refine St0 #[(vi 1), (vi s4.1), (.string ⟨(r87).toArray⟩)] hs96 (fun w97 hs98 => ?_)
        refine Sd ?_
        obtain rfl := Aa h89
        exact .inl ⟨rfl, F7, hs98, le93, fI⟩
       ·refine Sq (Rg [0, 1, 2, 3, 4, 5, 6] ?_)
        refine Sn (fun f w => ∃ (F8 : Mem), HS wb Fb w F8 ((sb b36 #[(vi 4), (vi s4.1), (.string ⟨(r33).toArray⟩)] 97) :: Lf8) /\ Sh F5 F8 /\ FI f [] [(0, (.func (.yield l) #[] #[])), (1, (pt bz0 0)), (2, (pt bz1 0)), (4, (vi s4.1)), (5, (pt b36 0)), (6, (.int .u8 c41)), (42, (.bool ((decide (c41 >= 97)) && (decide (c41 <= 122)))))]) ?_ ?_
        ·refine Vs 1 ?_
         refine Vs 1 ?_
         refine Vs 1 ?_
         refine Sm (decide (c41 >= 97)) (fun hb110 => ?_) (fun hb110 => ?_)
         ·refine Vgs hb110 1 ?_--2
          refine Vgs hb110 1 ?_--2
          refine Pk1 hb110 ?_
          refine Vs 1 ?_
          exact Sd ⟨rfl, F5, hs61, (Si _), (fJ ⟨rfl, rfl, rfl, rfl, rfl, rfl, (congrArg Value.bool (BL hb110 rfl)), trivial⟩)⟩
         ·refine Ss hb110 1 ?_--2
          refine Ss hb110 1 ?_--2
          refine Pk0 hb110 ?_
          refine Vs 1 ?_
          exact Sd ⟨rfl, F5, hs61, (Si _), (fJ ⟨rfl, rfl, rfl, rfl, rfl, rfl, (congrArg Value.bool (Dz hb110 rfl)), trivial⟩)⟩
        ·rintro f w99 ⟨F8, hs100, le101, ⟨_, rfl⟩⟩
         refine Ac ?_
         obtain ⟨j114, hj121, h122⟩ := bind_some h86
         refine So (fun f w => ∃ (F9 : Mem), HS wb Fb w F9 ((sb b36 #[(vi j114.1), (vi s4.1), (.string ⟨(j114.2).toArray⟩)] 97) :: Lf8) /\ Sh F8 F9 /\ FI f [] [(0, (.func (.yield l) #[] #[])), (1, (pt bz0 0)), (2, (pt bz1 0)), (4, (vi s4.1)), (5, (pt b36 0))]) ?_ ?_
         ·refine Cd hj121 (fun hb123 h124 => ?_) (fun hb123 h125 => ?_)
          ·refine Rg [0, 1, 2, 3, 4, 5, 6] ?_
           refine Ld (hs100.pers _ _ (((((le01.trans le7).trans le46).trans le62).trans le101) _ _ hz1)) ?_
           refine Vs 1 ?_
           obtain ⟨r126, hr127, h128⟩ := bind_some h124
           refine Cq hoz1_0 hs100 (hpz1_0 w99 F8 s4.1 97 122 _ ((((le01.trans le7).trans le46).trans le62).trans le101) hs100.pers hr127) ?_
           rintro _ F10 w130 hs131 le132 rfl
           refine Vs 1 ?_
           refine St0 #[(vi 2), (vi s4.1), (.string ⟨(r33).toArray⟩)] hs131 (fun w134 hs135 => ?_)
           refine Vs 1 ?_
           refine St0 #[(vi 2), (vi s4.1), (.string ⟨(r126).toArray⟩)] hs135 (fun w136 hs137 => ?_)
           refine Sd ?_
           obtain rfl := Aa h128
           exact .inl ⟨rfl, F10, hs137, le132, fI⟩
          ·refine Sq (Rg [0, 1, 2, 3, 4] ?_)
           refine Ld (hs100.pers _ _ (((((le01.trans le7).trans le46).trans le62).trans le101) _ _ hz0)) ?_
           refine Vs 1 ?_
           obtain ⟨r138, hr139, h140⟩ := bind_some h125
           refine V 57 9 (Kr (t := 9) (x := (.tmp 55)) (lo := (some (.tmp 56))) (hi := none) (a := z0) (il := s4.1) (ih := (z0.length : Int)) (v := r138) rfl (by kernel_rfl) rfl rfl hr139) ?_
           obtain ⟨r141, hr142, h143⟩ := bind_some h140
           refine Cl' GO hs100 (Hu N w99 F8 hs100.pers r138 (([61, 62] : SF)) _ hr142) ?_
           rintro _ F11 w145 hs146 le147 rfl
           refine Vs 1 ?_
           refine Nt ?_
           obtain ⟨j152, hj159, h160⟩ := bind_some h143
           refine So (fun f w => ∃ (F12 : Mem), HS wb Fb w F12 ((sb b36 #[(vi j152.1), (vi s4.1), (.string ⟨(j152.2).toArray⟩)] 97) :: Lf8) /\ Sh F11 F12 /\ FI f [] [(0, (.func (.yield l) #[] #[])), (1, (pt bz0 0)), (2, (pt bz1 0)), (4, (vi s4.1)), (5, (pt b36 0))]) ?_ ?_
           ·refine Cd hj159 (fun hb161 h162 => ?_) (fun hb161 h163 => ?_)
            ·refine Rg [0, 1, 2, 3] ?_
             refine Vs 1 ?_
             refine St0 #[(vi 3), (vi s4.1), (.string ⟨(r33).toArray⟩)] hs146 (fun w164 hs165 => ?_)
             refine Vs 1 ?_
             refine St0 #[(vi 3), (vi s4.1), (.string ⟨(([61, 62] : SF)).toArray⟩)] hs165 (fun w166 hs167 => ?_)
             refine Sd ?_
             obtain rfl := Aa h162
             exact .inl ⟨rfl, F11, hs167, (Si _), fI⟩
            ·refine Sq (Rg [0, 1, 2, 3] ?_)
             refine Vs 1 ?_
             obtain ⟨r168, hr169, h170⟩ := bind_some h163
             refine Cl' GN hs146 (Hs N w145 F11 hs146.pers (([40, 41, 44, 58, 61, 60, 43, 45, 42, 10] : SF)) c41 _ hr169) ?_
             rintro _ F13 w172 hs173 le174 rfl
             refine Vs 1 ?_
             refine Vs 1 ?_
             refine Nt ?_
             obtain ⟨j179, hj186, h187⟩ := bind_some h170
             refine So (fun f w => ∃ (F14 : Mem), HS wb Fb w F14 ((sb b36 #[(vi j179), (vi s4.1), (.string ⟨(r33).toArray⟩)] 97) :: Lf8) /\ Sh F13 F14 /\ FI f [] [(0, (.func (.yield l) #[] #[])), (1, (pt bz0 0)), (2, (pt bz1 0)), (4, (vi s4.1)), (5, (pt b36 0))]) ?_ ?_
             ·refine Cd hj186 (fun hb188 h189 => ?_) (fun hb188 h190 => ?_)
              ·refine Rg [0, 1] ?_
               refine Vs 1 ?_
               refine St0 #[(vi 3), (vi s4.1), (.string ⟨(r33).toArray⟩)] hs173 (fun w191 hs192 => ?_)
               refine Sd ?_
               obtain rfl := Aa h189
               exact .inl ⟨rfl, F13, hs192, (Si _), fI⟩
              ·refine Sc ?_
               obtain rfl := Aa h190
               exact .inl ⟨rfl, F13, hs173, (Si _), fI⟩
             ·rintro f w176 ⟨F14, hs177, le178, ⟨_, rfl⟩⟩
              obtain rfl := Aa h187
              exact .inl ⟨rfl, F14, hs177, (le174.trans le178), fI⟩
           ·rintro f w149 ⟨F12, hs150, le151, ⟨_, rfl⟩⟩
            obtain rfl := Aa h160
            exact .inl ⟨rfl, F12, hs150, (le147.trans le151), fI⟩
         ·rintro f w111 ⟨F9, hs112, le113, ⟨_, rfl⟩⟩
          obtain rfl := Aa h122
          exact .inl ⟨rfl, F9, hs112, (le101.trans le113), fI⟩
      ·rintro f w72 ⟨F6, hs73, le74, ⟨_, rfl⟩⟩
       refine Aq ?_
       refine Ac ?_
       refine Sq (Rg [0, 1, 2, 3, 4, 5] ?_)
       refine Vs 1 ?_
       refine Vs 1 ?_
       refine Ld hs73.at0 ?_
       refine Vs 1 ?_
       refine Vs 1 ?_
       refine Vs 1 ?_
       refine Nss (Rg [0, 1, 2, 3] ?_)
       refine Vs 1 ?_
       refine Ld hs73.at0 ?_
       obtain ⟨q193, hq194, h195⟩ := bind_some h83
       refine RWP.yield (dst := (some 73)) (ty := 4) (g := none) (by kernel_rfl) rfl (f0 := (.tmp 71)) (aos := #[(.tmp 72)]) (ats := #[97]) (l := l) (args := [(.agg #[(vi j75.1), (vi s4.1), (.string ⟨(j75.2).toArray⟩)])]) rfl rfl (hY s4.2 ({ kind_ := j75.1, at_ := s4.1, text_ := j75.2 } : Ar) w72 F6 [(sb b36 #[(vi j75.1), (vi s4.1), (.string ⟨(j75.2).toArray⟩)] 97)] Lf8 q193 (((le7.trans le46).trans le62).trans le74) trivial (hJm _ _ _ _ hJ9 ((le46.trans le62).trans le74)) hs73 hq194) ?_
       rintro _ w196 ⟨F15, Lf200, rfl, hs197, le198, hJ199⟩
       have hs201 : HS wb Fb w196 F15 ((sb b36 #[(vi j75.1), (vi s4.1), (.string ⟨(j75.2).toArray⟩)] 97) :: Lf200) := hs197
       refine ⟨_, rfl, ?_⟩
       refine Vs 1 ?_
       refine Nt ?_
       refine Cd h195 (fun hb202 h203 => ?_) (fun hb202 h204 => ?_)
       ·refine Rt ?_
        refine Ai ?_
        refine Ae ?_
        refine Ai ?_
        have hret := BJ h203 hnx29
        subst hret
        refine .inr ?_
        refine Ae ?_
        have hfin := Aa h3
        subst hfin
        exact ⟨rfl, .tuple #[], AC (l := []) (by kernel_rfl) (vs := []) trivial, F15, Lf200, rfl, hs201.dr0, ((((le7.trans le46).trans le62).trans le74).trans le198), hJ199⟩
       ·refine Sc ?_
        refine Aq ?_
        have hn205 := AM h204 hnx29
        exact ⟨m26, Nat.lt_succ_self _, ((W64 (s4.1 + (j75.2.length : Int))), q193.2), F15, Lf200, hn205, hs201.dr0, ((((le7.trans le46).trans le62).trans le74).trans le198), fI, hJ199⟩
  ·refine Ex ?_
   refine Av ?_
   refine Av ?_
   refine AE rfl ?_
   have ho206 := AX h32 hnx29
   exact .inl ⟨rfl, (s4.1, s4.2), F2, Lf8, ho206, hs6, le7, fI, hJ9⟩
 ·rintro f w16 ⟨s15, F3, Lf19, rfl, hs17, le18, ⟨_, rfl⟩, hJ20⟩
  have h207 := Bo h3
  refine Ac ?_
  refine Rg [0, 1, 2, 3, 4] ?_
  refine Vs 1 ?_
  refine Ld (hs17.pers _ _ ((le01.trans le18) _ _ hz0)) ?_
  refine Vs 1 ?_
  refine Vs 1 ?_
  obtain ⟨q208, hq209, h210⟩ := bind_some h207
  refine RWP.yield (dst := (some 79)) (ty := 4) (g := none) (by kernel_rfl) rfl (f0 := (.tmp 75)) (aos := #[(.tmp 78)]) (ats := #[97]) (l := l) (args := [(.agg #[(vi 0), (vi (z0.length : Int)), (.string ⟨(([] : SF)).toArray⟩)])]) rfl rfl (hY s15.2 ({ kind_ := 0, at_ := (z0.length : Int), text_ := ([] : SF) } : Ar) w16 F3 [] Lf19 q208 le18 trivial hJ20 hs17 hq209) ?_
  rintro _ w211 ⟨F16, Lf215, rfl, hs212, le213, hJ214⟩
  have hs216 : HS wb Fb w211 F16 Lf215 := hs212
  refine ⟨_, rfl, ?_⟩
  refine Sd ?_
  have hfin := Aa h210
  subst hfin
  exact ⟨rfl, .tuple #[], AC (l := []) (by kernel_rfl) (vs := []) trivial, F16, Lf215, rfl, hs216, (le18.trans le213), hJ214⟩
section
variable {P : Program} {ro : Option Nat} {n : Nat} {R : Array Oper} {Q : Exit -> Fr -> World -> Prop} {w w0 : World} {F0 F : Mem} {L : Own} {f : Fr} {i : Nat} {rest : List Nat} {dst : Option Nat} {ty : TypeId} {g : Option (Nat × Bool)} {ρ : Operand -> Value}
theorem NO {x : Operand} {q : FuncId} {cap : Array Value} {ats : Array TypeId} (hx : ρ x = .func (.func q) #[] cap) :
  (Ak ρ (.defer { callee := .value x, args := #[], argTypes := ats }) ty).run P w = .ok (.defer { target := .fn (.func q) cap, args := #[] }) w := by
 have e : Ak ρ (.defer { callee := .value x, args := #[], argTypes := ats }) ty = (do pure (Next.defer (<- Deferred.ofValue (ρ x) (Array.map ρ #[])))) := rfl
 rw [e, hx]
 simp [Deferred.ofValue]
theorem RWP.defer0 {x : Operand} {q : FuncId} {cap : Array Value} {ats : Array TypeId} (ho : opq R i = some (none, .defer { callee := .value x, args := #[], argTypes := ats }, ty, g)) (hg : gd R f g = true) (hx : fev f x = .func (.func q) #[] cap)
  (k : RWP P none n R Q rest ⟨f.v, { target := .fn (.func q) cap, args := #[] } :: f.d⟩ w) : RWP P none n R Q (i :: rest) f w := by
 intro hok a ha
 obtain ⟨o, hR, hd, hop, hty, hgd⟩ := BV ho
 rw [wpOpsIn]
 simp only [hR]
 rw [ha.wanted R o, hgd, hg]
 simp only [if_true]
 refine ⟨Bg, ?_⟩
 show o.uponIn (FW none) 0 P a _ _ ((execOp a.eval o).run P w)
 rw [BE, ha.evalF, hop, hty, NO hx]
 simp only [Oper.uponIn]
 rw [hd]
 exact k hok _ ⟨ha.size, ha.at_, by simp [Act.put, ha.defers]⟩
theorem JV {x : Operand} {t q : TypeId} {v : Value} (hx : ρ x = .iface q v) (hu : Im P q = true) :
  (Ak ρ (.typeAssert x t q true) ty).run P w = .ok (.value (.tuple #[v, .bool true])) w := by
 have e : Ak ρ (.typeAssert x t q true) ty = (do pure (Next.value (<- Instr.typeAssert (ρ x) t q true))) := rfl
 rw [e, hx]
 unfold Im at hu
 split at hu
 ·cases hu
 ·rename_i d h1 h2
  cases d <;> first | exact (h1 _ rfl).elim | simp [Instr.typeAssert, run_underlying h2, Result.andThen]
 ·cases hu
theorem Gi {ops : Array Oper} {QS : Exit -> Act -> List Frame -> World -> Prop} {a : Act} {cs : List Frame} {d d2 : Nat} {ty ty2 : TypeId}
  (ho : opq ops 0 = some (some d, .call { callee := .builtin .recover, args := #[], argTypes := #[] }, ty, none)) (ho2 : opq ops 1 = some (some d2, .assign (.tmp d), ty2, none)) (hl : ops.size = 2) (hsz : d < a.tmps.size)
  (h : match recoverD cs with | some (v, cs') => QS .normal ((a.put (some d) v).put (some d2) v) cs' w | none => QS .normal ((a.put (some d) .nilIface).put (some d2) .nilIface) cs w) : wpOpsS P ops QS (List.range ops.size) a cs w := by
 rw [hl]
 obtain ⟨o, hR, hd, hop, hty, hgd⟩ := BV ho
 obtain ⟨o2, hR2, hd2, hop2, hty2, hgd2⟩ := BV ho2
 show wpOpsS P ops QS [0, 1] a cs w
 have step2 : ∀ (v : Value) (cs' : List Frame), QS .normal ((a.put (some d) v).put (some d2) v) cs' w -> wpOpsS P ops QS [1] (a.put (some d) v) cs' w := by
  intro v cs' hq
  simp only [wpOpsS, hR2]
  have hw : ∀ y, Region.wanted o2 y = true := fun y => by unfold Region.wanted; rw [hgd2]
  rw [if_pos (hw _)]
  have hev : (a.put (some d) v).eval (.tmp d) = v := by
   simp [Act.eval, Act.put, hsz]
  have hx : (execOp (a.put (some d) v).eval o2).run P w = .ok (.value v) w := by
   rw [BE, hop2]
   exact AB (ρ := (a.put (some d) v).eval) hev
  rw [hx]
  simp only [Oper.upon]
  rw [hd2]; exact hq
 rw [wpOpsS]
 simp only [hR]
 have hw : Region.wanted o (yielded ops a.tmps) = true := by unfold Region.wanted; rw [hgd]
 rw [if_pos hw]
 have hx : (execOp a.eval o).run P w = .ok .recover w := by rw [BE, hop]; rfl
 rw [hx]
 simp only
 cases hr : recoverD cs with
 | none => rw [hr] at h; simp only at h ⊢; rw [hd]; exact step2 _ _ h
 | some p => obtain ⟨v, cs'⟩ := p; rw [hr] at h; simp only at h ⊢; rw [hd]; exact step2 _ _ h
theorem QK {c : Code} {a : Act} {cs : List Frame} {Q' : Exit -> Fr -> World -> Prop} {QS : Exit -> Act -> List Frame -> World -> Prop} (h : CWP P none n c Q' f w) (hf : DA n f a)
  (hq : ∀ e a' w', lq n Q' e a' w' -> QS e a' cs w') : c.wpS P QS a cs w := wpS_of_wp (wp_mono (wpIn_wide.1 (h a hf)) hq)
theorem PK {args : List Value} (hsz : decide (args.length <= n) = true) : DA n (f0 args) { tmps := args.toArray ++ Array.replicate (n - args.toArray.size) undef, defers := [] } := by
 have hsz' : args.length <= n := by simpa using hsz
 refine ⟨?_, ?_, rfl⟩
 ·simp; omega
 ·intro i
  simp only [f0]
  rw [Array.getD_eq_getD_getElem?]
  by_cases hi : i < args.length
  ·simp [Array.getElem?_append, hi]
  ·rw [Array.getElem?_append_right (by simp; omega)]
   rw [List.getD_eq_getElem?_getD, List.getElem?_eq_none (by omega)]
   simp only [List.getElem?_toArray, Array.getElem?_replicate]
   split <;> rfl
end
section
variable {wb w : World} {Fb F : Mem} {Lf : Own}
theorem QE : ∃ id ops, cs1 (B8 Tryz.f131) = .region id ops false /\ B8 Tryz.f131 = .seq (cs1 (B8 Tryz.f131)) (cs2 (B8 Tryz.f131)) := ⟨_, _, rfl, rfl⟩
theorem JK {Q : Exit -> Act -> List Frame -> World -> Prop} {a : Act} {cs : List Frame} {w : World} (h : wpOpsS Tryz.prog (D4 (cs1 (B8 Tryz.f131))) (Exit.thenS ((cs2 (B8 Tryz.f131)).wpS Tryz.prog Q) Q) (List.range (D4 (cs1 (B8 Tryz.f131))).size) a cs w) : (B8 Tryz.f131).wpS Tryz.prog Q a cs w := by
 obtain ⟨id, ops, h1, h2⟩ := QE
 rw [h2]
 refine wpS_seq ?_
 rw [h1] at h ⊢
 exact wpS_region h
abbrev HC (b : Ah) : Value := .agg #[.int .i64 b.e_, .int .i64 b.at_]
abbrev be (v : Int) : Obj := .cells #[.int .i64 v] 27 (0, 0)
abbrev ba (v : Int) : Obj := .cells #[.int .i64 v] 3 (0, 0)
abbrev Gl (b c : Nat) : List Value := [.pointer (some ⟨b, 0, none⟩), .pointer (some ⟨c, 0, none⟩)]
theorem Nj {b c : Nat} : CallsD Tryz.prog 131 (Gl b c).toArray .returning w fun e u' w' => u' = .returning /\ e = .returned (.tuple #[]) /\ w' = w := by
 refine callsD_of_wpS (fn := Tryz.f131) (c := B8 Tryz.f131) Tryz.func131 (by kernel_rfl) fun c0 cs hu => JK (Gi (d := 5) (d2 := 2) (ty := 20) (ty2 := 20) (by kernel_rfl) (by kernel_rfl) (by kernel_rfl) (by rw [show Tryz.f131.ntmps = 20 from by kernel_rfl]; simp) ?_)
 have hr : recoverD (c0 :: cs) = none := by simp [recoverD, hu]
 rw [hr]
 simp only
 refine QK (n := 20) (f := upd (upd (f0 (Gl b c)) 5 .nilIface) 2 .nilIface) (Q' := fun e f w' => e = .normal /\ w' = w /\ f.d = []) ?_ (((PK (n := 20) (args := Gl b c) rfl).put (dst := some 5) (by decide) .nilIface).put (dst := some 2) (by decide) .nilIface) ?_
 ·refine Sq ?_
  refine Rg [0, 1] ?_
  refine V 6 20 (AO (x := .tmp 2) (v := .nilIface) rfl) ?_
  refine V 7 4 (HW (t := 20) (t' := 20) (x := .tmp 6) (c := .nilIface) (b := false) (v := .nilIface) rfl rfl rfl (by kernel_rfl)) ?_
  refine Sd ?_
  refine Ac ?_
  refine CWP.cond0 (t := false) (by kernel_rfl) rfl rfl ?_
  exact CWP.skip (by kernel_rfl) ⟨rfl, rfl, rfl⟩
 ·rintro e a' w' ⟨f, hf, rfl, rfl, hd⟩
  refine ⟨hf.defers.trans hd, .returning, by rw [<- hu], .tuple #[], ?_, rfl, rfl, rfl⟩
  rw [hf.results Tryz.f131]
  exact AC (l := []) (by kernel_rfl) (vs := []) trivial
theorem Nk {b c : Nat} {x : Ah} (hs : HS wb Fb w F ((some c, ba 0) :: (some b, be 0) :: Lf)) :
  CallsD Tryz.prog 131 (Gl b c).toArray (.panicking [{ v := .iface 158 (HC x), recovered := false }]) w fun e u' w' =>
   settle u' = .returning /\ e = .returned (.tuple #[]) /\ HS wb Fb w' F ((some c, ba x.at_) :: (some b, be x.e_) :: Lf) := by
 refine callsD_of_wpS (fn := Tryz.f131) (c := B8 Tryz.f131) Tryz.func131 (by kernel_rfl) fun c0 cs hu => JK (Gi (d := 5) (d2 := 2) (ty := 20) (ty2 := 20) (by kernel_rfl) (by kernel_rfl) (by kernel_rfl) (by rw [show Tryz.f131.ntmps = 20 from by kernel_rfl]; simp) ?_)
 have hr : recoverD (c0 :: cs) = some (.iface 158 (HC x), { c0 with mode := .panicking [{ v := .iface 158 (HC x), recovered := true }] } :: cs) := by simp [recoverD, hu]
 rw [hr]
 simp only
 refine QK (n := 20) (f := upd (upd (f0 (Gl b c)) 5 (.iface 158 (HC x))) 2 (.iface 158 (HC x))) (Q' := fun e f w' => e = .normal /\ f.d = [] /\ HS wb Fb w' F ((some c, ba x.at_) :: (some b, be x.e_) :: Lf)) ?_ (((PK (n := 20) (args := Gl b c) rfl).put (dst := some 5) (by decide) _).put (dst := some 2) (by decide) _) ?_
 ·refine Sq ?_
  refine Rg [0, 1] ?_
  refine V 6 20 (AO (x := .tmp 2) (v := .iface 158 (HC x)) rfl) ?_
  refine V 7 4 (HW (t := 20) (t' := 20) (x := .tmp 6) (c := .nilIface) (b := true) (v := .iface 158 (HC x)) ⟨_, _, rfl⟩ rfl rfl (by kernel_rfl)) ?_
  refine Sd ?_
  refine Ac ?_
  refine CWP.cond1 (t := true) (by kernel_rfl) rfl rfl ?_
  refine Sq ?_
  refine Rg [0, 1, 2, 3, 4, 5, 6, 7] ?_
  refine V 9 20 (AO (x := .tmp 2) (v := .iface 158 (HC x)) rfl) ?_
  refine V 10 159 (JV (x := .tmp 9) (t := 20) (q := 158) (v := HC x) rfl (by kernel_rfl)) ?_
  refine V 8 159 (AO (x := .tmp 10) (v := .tuple #[HC x, .bool true]) rfl) ?_
  refine V 11 158 (Bz (x := .tmp 8) (vs := #[HC x, .bool true]) (i := 0) (v := HC x) rfl rfl) ?_
  refine V 12 4 (Bz (x := .tmp 8) (vs := #[HC x, .bool true]) (i := 1) (v := .bool true) rfl rfl) ?_
  refine Sr (dst := some 3) (ty := 0) (g := none) (by kernel_rfl) rfl (t := 158) (z := .agg #[.int .i64 0, .int .i64 0]) (by kernel_rfl) (C := #[.int .i64 0, .int .i64 0]) rfl hs (fun b3 w3 hs3 => ?_)
  refine St (ty := 0) (g := none) (by kernel_rfl) rfl (x := .tmp 3) (y := .tmp 11) (t := 158) (gg := true) (s := 2) (v := HC x) (b := b3) (o := 0) (C := #[.int .i64 0, .int .i64 0]) rfl rfl (by kernel_rfl) hs3 (k := 0) rfl rfl rfl rfl (C' := #[.int .i64 x.e_, .int .i64 x.at_]) rfl (fun w4 (hs4 : HS wb Fb w4 F ((some b3, .cells #[.int .i64 x.e_, .int .i64 x.at_] 158 (0, 0)) :: (some c, ba 0) :: (some b, be 0) :: Lf)) => ?_)
  refine V 4 4 (AB (x := .tmp 12) (v := .bool true) rfl) ?_
  refine Sd ?_
  refine Ac ?_
  refine Sq ?_
  refine Sq ?_
  refine Rg [0, 1] ?_
  refine V 13 4 (AO (x := .tmp 4) (v := .bool true) rfl) ?_
  refine V 14 4 (Mf (t := 4) (x := .tmp 13) (a := true) rfl) ?_
  refine Sd ?_
  refine Ac ?_
  refine CWP.cond0 (t := false) (by kernel_rfl) rfl rfl ?_
  refine CWP.skip (by kernel_rfl) ?_
  refine Ac ?_
  refine CWP.regionD (by kernel_rfl) (by kernel_rfl) (by kernel_rfl) (by kernel_rfl) (z := 6) (F := F) (Lc := [(some b3, .cells #[.int .i64 x.e_, .int .i64 x.at_] 158 (0, 0))]) (Lz := []) (l := [false, false, false, false, false, false]) (fuel := 6) (by kernel_rfl) (by kernel_rfl) hs4 (by simp) (by simp) (fun f w' => f.d = [] /\ HS wb Fb w' F ((some c, ba x.at_) :: (some b, be x.e_) :: Lf)) (fun wd hw => ?_) (fun f w' h => ⟨rfl, h.1, h.2⟩)
  refine Sv (i := 0) (v := .pointer (some ⟨b3, 0, none⟩)) (zd := true) (dst := some 16) (ty := 0) (g := none) (by kernel_rfl) (by kernel_rfl) (by kernel_rfl) (by kernel_rfl) (by kernel_rfl) rfl (fun wq hq => BS (s := 158) (x := .tmp 3) (i := 0) (o := 0) (k := 1) (b := b3) (o0 := 0) rfl (by kernel_rfl) rfl (o1 := 0) rfl) (l' := [true, false, false, false, false, false]) (by kernel_rfl) ?_
  refine Sv (i := 1) (v := .int .i64 x.e_) (zd := true) (dst := some 17) (ty := 27) (g := none) (by kernel_rfl) (by kernel_rfl) (by kernel_rfl) (by kernel_rfl) (by kernel_rfl) rfl (fun wq hq => B1 (t := 27) (x := .tmp 16) (b := b3) (o := 0) (g := false) (s := 1) (C := #[.int .i64 x.e_, .int .i64 x.at_]) (v := .int .i64 x.e_) rfl (by kernel_rfl) (hq.1.2 0 _ _ rfl) rfl rfl rfl) (l' := [true, true, false, false, false, false]) (by kernel_rfl) ?_
  refine Sv (i := 2) (v := .pointer (some ⟨b3, 1, none⟩)) (zd := true) (dst := some 18) (ty := 0) (g := none) (by kernel_rfl) (by kernel_rfl) (by kernel_rfl) (by kernel_rfl) (by kernel_rfl) rfl (fun wq hq => BS (s := 158) (x := .tmp 3) (i := 1) (o := 1) (k := 1) (b := b3) (o0 := 0) rfl (by kernel_rfl) rfl (o1 := 1) rfl) (l' := [true, true, true, false, false, false]) (by kernel_rfl) ?_
  refine Sv (i := 3) (v := .int .i64 x.at_) (zd := true) (dst := some 19) (ty := 3) (g := none) (by kernel_rfl) (by kernel_rfl) (by kernel_rfl) (by kernel_rfl) (by kernel_rfl) rfl (fun wq hq => B1 (t := 3) (x := .tmp 18) (b := b3) (o := 1) (g := false) (s := 1) (C := #[.int .i64 x.e_, .int .i64 x.at_]) (v := .int .i64 x.at_) rfl (by kernel_rfl) (hq.1.2 0 _ _ rfl) rfl rfl rfl) (l' := [true, true, true, true, false, false]) (by kernel_rfl) ?_
  refine Sx (i := 4) (by kernel_rfl) ?_
  refine AA.store (l' := [true, true, true, true, true, false]) (zd := true) (by kernel_rfl) (by kernel_rfl) (ty := 0) (g := none) (by kernel_rfl) rfl (x := .tmp 0) (y := .tmp 17) (t := 27) (v := .int .i64 x.e_) (gg := false) (s := 1) (b := b) (o := 0) (C := #[.int .i64 0]) rfl rfl (by kernel_rfl) hw (k := 2) rfl rfl rfl rfl (C' := #[.int .i64 x.e_]) rfl (Si _) (by simp) (fun e => by cases e) (fun w5 (hs5 : HS wb Fb w5 F ((some b3, .cells #[.int .i64 x.e_, .int .i64 x.at_] 158 (0, 0)) :: (some c, ba 0) :: (some b, be x.e_) :: Lf)) => ?_)
  refine Sx (i := 5) (by kernel_rfl) ?_
  refine AA.store (l' := [true, true, true, true, true, true]) (zd := true) (by kernel_rfl) (by kernel_rfl) (ty := 0) (g := none) (by kernel_rfl) rfl (x := .tmp 1) (y := .tmp 19) (t := 3) (v := .int .i64 x.at_) (gg := false) (s := 1) (b := c) (o := 0) (C := #[.int .i64 0]) rfl rfl (by kernel_rfl) hs5 (k := 1) rfl rfl rfl rfl (C' := #[.int .i64 x.at_]) rfl (Si _) (by simp) (fun e => by cases e) (fun w6 (hs6 : HS wb Fb w6 F ((some b3, .cells #[.int .i64 x.e_, .int .i64 x.at_] 158 (0, 0)) :: (some c, ba x.at_) :: (some b, be x.e_) :: Lf)) => ?_)
  exact SA (by kernel_rfl) ⟨rfl, hs6.drop 0⟩
 ·rintro e a' w' ⟨f, hf, rfl, hd, hs'⟩
  refine ⟨hf.defers.trans hd, _, rfl, .tuple #[], ?_, rfl, rfl, hs'⟩
  rw [hf.results Tryz.f131]
  exact AC (l := []) (by kernel_rfl) (vs := []) trivial
theorem PI (b c : Nat) (w' : World) : (invoke (.fn (.func 131) (Gl b c).toArray) #[]).run Tryz.prog w' = .ok (.enter 131 (Gl b c).toArray) w' := by
 have co : Al Tryz.prog 131 := fun _ _ => by kernel_rfl
 simp only [invoke]; rw [co]; rfl
def Gy (N : Nat) (s : SF) : Option (List Ar) := IV (fun {_} y st => EH N y s (fun y0 y1 y2 => CH N y0 y1 y2 s) st)
theorem HL : Al Tryz.prog 78 := fun _ _ => by kernel_rfl
theorem I5 (N : Nat) (hs : HS wb Fb w F Lf) (s : SF) {g : FuncId} {cap : List Value} (hok : Al Tryz.prog g) (K : Option Ah -> Mem -> Own -> Prop) (hlong : decide ((s.length : Int) > 65536) = true -> ∀ F', K (some ⟨2, 0⟩) F' Lf)
  (hrun : decide ((s.length : Int) > 65536) = false -> ∃ l, Gy N s = some l /\ ∀ w1 F1 be_ ba_ bp a n, Sh F F1 -> LC l.length n -> SlA Af F1 a l -> HS wb Fb w1 F1 ((some bp, .cells #[.slice a l.length n, .int .i64 0] 100 (0, 0)) :: (some ba_, ba 0) :: (some be_, be 0) :: Lf) ->
   Calls Tryz.prog g (.pointer (some ⟨bp, 0, none⟩) :: cap).toArray w1 (fun e w2 =>
   (∃ v F2 Lf2, e = .returned v /\ HS wb Fb w2 F2 ((some ba_, ba 0) :: (some be_, be 0) :: Lf2) /\ Sh F1 F2 /\ K none F2 Lf2) \/
   (∃ x F2 Lf2, e = .panicked [{ v := .iface 158 (HC x), recovered := false }] /\ HS wb Fb w2 F2 ((some ba_, ba 0) :: (some be_, be 0) :: Lf2) /\ Sh F1 F2 /\ K (some x) F2 Lf2))) :
  Calls Tryz.prog 78 ([.string ⟨s.toArray⟩, .func (.func g) #[] cap.toArray] : List Value).toArray w (fun e w' => ∃ o F' Lf', e = .returned (match o with | none => .tuple #[.int .i64 0, .int .i64 0] | some x => .tuple #[.int .i64 x.e_, .int .i64 x.at_]) /\ HS wb Fb w' F' Lf' /\ Sh F F' /\ K o F' Lf') := by
 refine calls_of_wp_defers (fn := Tryz.f78) (c := B8 Tryz.f78) Tryz.func78 (by kernel_rfl) ?_
 have key : CWP Tryz.prog none 17 (B8 Tryz.f78) (fun e f w' => ∃ b c F' Lf', f 4 = .pointer (some ⟨b, 0, none⟩) /\ f 5 = .pointer (some ⟨c, 0, none⟩) /\ Sh F F' /\
   ((e = .ret /\ f.d = [] /\ HS wb Fb w' F' ((some c, ba 0) :: (some b, be 2) :: Lf') /\ K (some ⟨2, 0⟩) F' Lf') \/
   (e = .ret /\ f.d = [{ target := .fn (.func 131) (Gl b c).toArray, args := #[] }] /\ HS wb Fb w' F' ((some c, ba 0) :: (some b, be 0) :: Lf') /\ K none F' Lf') \/
   (∃ x, e = .panic [{ v := .iface 158 (HC x), recovered := false }] /\ f.d = [{ target := .fn (.func 131) (Gl b c).toArray, args := #[] }] /\ HS wb Fb w' F' ((some c, ba 0) :: (some b, be 0) :: Lf') /\ K (some x) F' Lf'))) (f0 [.string ⟨s.toArray⟩, .func (.func g) #[] cap.toArray]) w := by
  refine Sq ?_
  refine Rg [0, 1] ?_
  refine Sr (dst := some 4) (ty := 0) (g := none) (by kernel_rfl) rfl (t := 27) (z := .int .i64 0) (by kernel_rfl) (C := #[.int .i64 0]) rfl hs (fun b w2 hs2 => ?_)
  refine Sr (dst := some 5) (ty := 0) (g := none) (by kernel_rfl) rfl (t := 3) (z := .int .i64 0) (by kernel_rfl) (C := #[.int .i64 0]) rfl hs2 (fun c w3 hs3 => ?_)
  refine Sd ?_
  refine Ac ?_
  refine Sq ?_
  refine Sq ?_
  refine Rg [0, 1, 2] ?_
  refine V 6 9 (AO (x := .tmp 0) (v := .string ⟨s.toArray⟩) rfl) ?_
  refine V 7 3 (MV (x := .tmp 6) (ats := #[9]) (t := 9) (a := s) rfl rfl (by kernel_rfl)) ?_
  refine V 8 4 (Oq (t := 3) (t' := 3) (x := .tmp 7) (y := .const (.int .i64 65536)) (k := .i64) (a := (s.length : Int)) (b := 65536) rfl rfl) ?_
  refine Sd ?_
  refine Ac ?_
  refine CWP.cond (t := decide ((s.length : Int) > 65536)) (by kernel_rfl) rfl (fun hc => ?_) (fun hc => ?_)
  ·refine Sq ?_
   refine Rg [0, 1] ?_
   refine St (ty := 0) (g := none) (by kernel_rfl) rfl (x := .tmp 4) (y := .const (.int .i64 2)) (t := 27) (gg := false) (s := 1) (v := .int .i64 2) (b := b) (o := 0) (C := #[.int .i64 0]) rfl rfl (by kernel_rfl) hs3 (k := 1) rfl rfl rfl rfl (C' := #[.int .i64 2]) rfl (fun w4 hs4 => ?_)
   refine St (ty := 0) (g := none) (by kernel_rfl) rfl (x := .tmp 5) (y := .const (.int .i64 0)) (t := 3) (gg := false) (s := 1) (v := .int .i64 0) (b := c) (o := 0) (C := #[.int .i64 0]) rfl rfl (by kernel_rfl) hs4 (k := 0) rfl rfl rfl rfl (C' := #[.int .i64 0]) rfl (fun w5 hs5 => ?_)
   refine Sd ?_
   refine Ac ?_
   refine CWP.ret (by kernel_rfl) ?_
   exact ⟨b, c, F, Lf, rfl, rfl, Si F, .inl ⟨rfl, rfl, hs5, hlong hc F⟩⟩
  ·obtain ⟨l, hl, hrun⟩ := hrun hc
   refine CWP.skip (by kernel_rfl) ?_
   refine Ac ?_
   refine Sq ?_
   refine Rg [0, 1] ?_
   refine V 9 1 (CQ (fn := .func 131) (first := #[]) (cap := #[.tmp 4, .tmp 5]) (fl := []) (cl := Gl b c) rfl rfl) ?_
   refine RWP.defer0 (ty := 0) (g := none) (x := .tmp 9) (q := 131) (cap := (Gl b c).toArray) (ats := #[]) (by kernel_rfl) rfl rfl ?_
   refine Sd ?_
   refine Ac ?_
   refine Sq ?_
   refine Rg [0, 1, 2, 3, 4, 5, 6] ?_
   refine V 10 103 (AO (x := .tmp 1) (v := .func (.func g) #[] cap.toArray) rfl) ?_
   refine V 11 9 (AO (x := .tmp 0) (v := .string ⟨s.toArray⟩) rfl) ?_
   refine RWP.call (dst := some 12) (ty := 162) (g := none) (by kernel_rfl) rfl (f0 := .func 133) (aos := #[.tmp 11]) (ats := #[9]) (fid := 133) (first := #[]) (cap := #[]) (args := [.string ⟨s.toArray⟩]) rfl JY rfl hs3 (K3 w3 F hs3.pers s) ?_
   rintro _ F1 w4 hs4 le4 ⟨b1, b2, rfl, hb1, hb2⟩
   refine RWP.call (dst := some 13) (ty := 98) (g := none) (by kernel_rfl) rfl (f0 := .func 132) (aos := #[.tmp 12]) (ats := #[162]) (fid := 132) (first := #[]) (cap := #[]) (args := [.func (.func 181) #[] #[.pointer (some ⟨b1, 0, none⟩), .pointer (some ⟨b2, 0, none⟩)]]) rfl IW rfl hs4
    (Jy w4 F1 hs4.pers 181 [.pointer (some ⟨b1, 0, none⟩), .pointer (some ⟨b2, 0, none⟩)] (fun {_} y st => EH N y s (fun y0 y1 y2 => CH N y0 y1 y2 s) st) IX
     (Jz N F1 s b1 hb1 (fun y0 y1 y2 => CH N y0 y1 y2 s) 180 [] [.pointer (some ⟨b1, 0, none⟩)] IY (fun w1 F2 y0 y1 y2 r le1 pe1 hr1 => JA N w1 F2 pe1 y0 y1 y2 b1 s (le1 _ _ hb1) r hr1) b2 hb2) l hl) ?_
   rintro _ F2 w5 hs5 le5 ⟨a, n, rfl, hb, hsl⟩
   refine V 14 100 (FY (t := 100) (parts := #[(0, .tmp 13)]) (vs := [(0, .slice a l.length n)]) rfl (cs := [.slice a l.length n, .int .i64 0]) (by kernel_rfl)) ?_
   refine RWP.box (dst := some 15) (ty := 95) (g := none) (by kernel_rfl) rfl (x := .tmp 14) (t := 100) (v := .agg #[.slice a l.length n, .int .i64 0]) rfl (C := #[.slice a l.length n, .int .i64 0]) rfl hs5 (fun bp w6 hs6 => ?_)
   refine Sf (dst := some 16) (ty := 0) (g := none) (by kernel_rfl) rfl (CW (f := .tmp 10) (aos := #[.tmp 15]) (ats := #[95]) (g := g) (first := #[]) (cap := cap.toArray) (args := .pointer (some ⟨bp, 0, none⟩) :: cap) rfl hok (by simp; rfl)) (hrun _ F2 b c bp a n (le4.trans le5) hb hsl hs6) ?_
   rintro e w7 (⟨v, F3, Lf2, rfl, hs7, hle, hK⟩ | ⟨x, F3, Lf2, rfl, hs7, hle, hK⟩)
   ·refine Sd ?_
    refine Ac ?_
    refine Sq ?_
    refine Rg [0, 1] ?_
    refine St (ty := 0) (g := none) (by kernel_rfl) rfl (x := .tmp 4) (y := .const (.int .i64 0)) (t := 27) (gg := false) (s := 1) (v := .int .i64 0) (b := b) (o := 0) (C := #[.int .i64 0]) rfl rfl (by kernel_rfl) hs7 (k := 1) rfl rfl rfl rfl (C' := #[.int .i64 0]) rfl (fun w8 hs8 => ?_)
    refine St (ty := 0) (g := none) (by kernel_rfl) rfl (x := .tmp 5) (y := .const (.int .i64 0)) (t := 3) (gg := false) (s := 1) (v := .int .i64 0) (b := c) (o := 0) (C := #[.int .i64 0]) rfl rfl (by kernel_rfl) hs8 (k := 0) rfl rfl rfl rfl (C' := #[.int .i64 0]) rfl (fun w9 hs9 => ?_)
    refine Sd ?_
    refine Ac ?_
    refine CWP.ret (by kernel_rfl) ?_
    exact ⟨b, c, F3, Lf2, rfl, rfl, (le4.trans le5).trans hle, .inr (.inl ⟨rfl, rfl, hs9, hK⟩)⟩
   ·exact ⟨b, c, F3, Lf2, rfl, rfl, (le4.trans le5).trans hle, .inr (.inr ⟨x, rfl, rfl, hs7, hK⟩)⟩
 refine wp_mono (wpIn_wide.1 (key _ (PK (n := 17) (args := [.string ⟨s.toArray⟩, .func (.func g) #[] cap.toArray]) rfl))) ?_
 have hres : ∀ {f : Fr} {b c : Nat} {v u : Int} {w' : World} {F' : Mem} {L' : Own}, f 4 = .pointer (some ⟨b, 0, none⟩) -> f 5 = .pointer (some ⟨c, 0, none⟩) -> HS wb Fb w' F' ((some c, ba u) :: (some b, be v) :: L') -> (Cc Tryz.f78.results f).run Tryz.prog w' = .ok (.tuple #[.int .i64 v, .int .i64 u]) w' := by
  intro f b c v u w' F' L' hf hf5 hs'
  exact AC (l := [.cell 4 27, .cell 5 3]) (by kernel_rfl) (vs := [.int .i64 v, .int .i64 u]) ⟨b, 0, hf, Aj (t := 27) (g := false) (s := 1) (by kernel_rfl) (hs'.ownAt (k := 1) rfl) rfl (by decide), c, 0, hf5, Aj (t := 3) (g := false) (s := 1) (by kernel_rfl) (hs'.ownAt (k := 0) rfl) rfl (by decide), trivial⟩
 rintro e a w' ⟨f, hf, b, c, F', Lf', h4, h5, hle, (⟨rfl, hd, hs', hK⟩ | ⟨rfl, hd, hs', hK⟩ | ⟨x, rfl, hd, hs', hK⟩)⟩
 ·show Leaves _ _ _ _ _ _ _
  rw [hf.defers, hd]
  exact ⟨_, by rw [hf.results Tryz.f78]; exact hres h4 h5 hs', some ⟨2, 0⟩, F', Lf', rfl, (hs'.drop 0).drop 0, hle, hK⟩
 ·show Leaves _ _ _ _ _ _ _
  rw [hf.defers, hd]
  refine ⟨by simp, _, _, 131, _, rfl, PI b c w', ?_⟩
  intro c0 cs hc0
  obtain ⟨e, u', w2, fr, hR, hrest⟩ := Nj (w := w') (b := b) (c := c) c0 cs hc0
  refine ⟨e, u', w2, fr, ?_, hrest⟩
  obtain ⟨rfl, rfl, rfl⟩ := hR
  show Leaves _ _ _ _ _ _ _
  exact ⟨_, by rw [hf.results Tryz.f78]; exact hres h4 h5 hs', none, F', Lf', rfl, (hs'.drop 0).drop 0, hle, hK⟩
 ·show Leaves _ _ _ _ _ _ _
  rw [hf.defers, hd]
  refine ⟨by simp, _, _, 131, _, rfl, PI b c w', ?_⟩
  intro c0 cs hc0
  obtain ⟨e, u', w2, fr, hR, hrest⟩ := Nk (w := w') (b := b) (c := c) (x := x) hs' c0 cs hc0
  refine ⟨e, u', w2, fr, ?_, hrest⟩
  obtain ⟨hu, rfl, hs2⟩ := hR
  show Leaves _ _ _ _ _ _ _
  rw [hu]
  exact ⟨_, by rw [hf.results Tryz.f78]; exact hres h4 h5 hs2, some x, F', Lf', rfl, (hs2.drop 0).drop 0, hle, hK⟩
end
def AY (N : Nat) (x0 : Ab) (x1 : SF) : Option Bool :=
 (((idx x0.l_ 0).bind fun x29 => (bif (x29.kind_ == 2) then ((idx x0.l_ 0).bind fun x46 => some (x46.text_ == x1)) else ((idx x0.l_ 0).bind fun x52 => (bif (x52.kind_ == 3) then ((idx x0.l_ 0).bind fun x61 => some (x61.text_ == x1)) else some false)))).bind fun j24 => some j24)
theorem B4 : Al Tryz.prog 134 := fun _ _ => by kernel_rfl
theorem B9 (N : Nat) {wb w0 : World} {Fb F0 : Mem} {Lf : Own} (bp0 : Nat) (x0 : Ab) (a0_0 : SG) (n0_0 : Nat) (hb0_0 : LC x0.l_.length n0_0) (hs0_0 : SlA Af F0 a0_0 x0.l_) (x1 : SF) (hs0 : HS wb Fb w0 F0 ((sb bp0 (Ad x0 a0_0 n0_0) 100) :: Lf)) (r : Bool) (h : AY N x0 x1 = some r) :
  Calls Tryz.prog 134 ([(pt bp0 0), (.string ⟨(x1).toArray⟩)] : List Value).toArray w0 (Ll wb Fb F0 fun F' v L' => v = (.bool r) /\ L' = (sb bp0 (Ad x0 a0_0 n0_0) 100) :: Lf) := by
 refine Go 34 Tryz.func134 ?_
 refine Sq (Rg [0] ?_)
 refine Vs 1 ?_
 refine Nss (Rg [0, 1, 2, 3, 4, 5, 6, 7, 8, 9, 10, 11, 12, 13, 14, 15, 16, 17, 18, 19, 20, 21, 22, 23, 24, 25, 26, 27, 28, 29] ?_)
 obtain ⟨j24, hj27, h28⟩ := bind_some h
 refine Sn (fun f w => ∃ (F1 : Mem), HS wb Fb w F1 ((sb bp0 (Ad x0 a0_0 n0_0) 100) :: Lf) /\ Sh F0 F1 /\ FI f [] [(4, (.bool j24))]) ?_ ?_
 ·refine Vs 3 ?_
  refine Ld hs0.at0 ?_
  obtain ⟨x29, hx30, h32⟩ := bind_some hj27
  obtain ⟨hi31, hx30'⟩ := Ap hx30
  obtain ⟨b33, o34, C35, E36, fz37, rfl, hF39, hE40⟩ := Su hs0_0 hx30'
  have hc42 := hE40 _ _ hx30'
  refine Ix hi31 ?_
  refine Vs 1 ?_
  refine Lx 0 (hs0.pers _ _ hF39) hc42 ?_
  refine Vs 2 ?_
  refine Sp h32 (fun hb43 h44 => ?_) (fun hb43 h45 => ?_)
  ·refine Ss hb43 8 ?_
   refine Pk1 hb43 ?_
   refine Vs 1 ?_
   refine Vg 24 95 18 true 23 rfl (mv 0 (pt bp0 0)) ?_
   refine Vg 25 0 18 true 23 rfl (De (x := (.tmp 24)) (a := ⟨bp0, 0, none⟩) rfl) ?_
   refine Vg 26 0 18 true 23 rfl (fa 100 25 0 0 1 bp0 0 0) ?_
   refine Vg 27 98 18 true 23 rfl (ld 98 26 bp0 0 false 1 (.slice (some ⟨b33, o34, none⟩) x0.l_.length n0_0) hs0.at0) ?_
   obtain ⟨x46, hx47, h49⟩ := bind_some h44
   obtain ⟨hi48, hx47'⟩ := Ap hx47
   have hc51 := hE40 _ _ hx47'
   refine Vg 28 0 18 true 23 rfl (Hk (t := 98) (x := (.tmp 27)) (y := (.const (vi 0))) (b := b33) (o := o34) (E := 97) (s := 3) (by_ := 32) rfl rfl (by kernel_rfl) hi48) ?_
   refine Vg 29 0 18 true 23 rfl (fa 97 28 2 2 1 b33 (o34 + (0 : Int).toNat * 3) ((o34 + (0 : Int).toNat * 3) + 2)) ?_
   refine Vg 30 9 18 true 23 rfl (lx 9 29 2 3 false 1 (.string ⟨(x46.text_).toArray⟩) (hs0.pers _ _ hF39) hc51) ?_
   refine Vg 31 9 18 true 23 rfl (mv 1 (.string ⟨(x1).toArray⟩)) ?_
   refine Vg 32 4 18 true 23 rfl (MW (t := 9) (t' := 9) (x := (.tmp 30)) (y := (.tmp 31)) (op := .eql) (a := x46.text_) (b := x1) (v := (x46.text_ == x1)) rfl rfl rfl) ?_
   refine Pk1 (rfl : true = true) ?_
   refine Vs 1 ?_
   obtain rfl := Aa h49
   exact Sd ⟨rfl, F0, hs0, (Si _), fI⟩
  ·refine Vgs hb43 3 ?_
   refine Lg hb43 hs0.at0 ?_
   obtain ⟨x52, hx53, h55⟩ := bind_some h45
   obtain ⟨hi54, hx53'⟩ := Ap hx53
   have hc57 := hE40 _ _ hx53'
   refine Ixg hb43 hi54 ?_
   refine Vgs hb43 1 ?_
   refine Lxg hb43 0 (hs0.pers _ _ hF39) hc57 ?_
   refine Vgs hb43 1 ?_
   refine Pk0 hb43 ?_
   refine Vs 1 ?_
   refine Sp h55 (fun hb58 h59 => ?_) (fun hb58 h60 => ?_)
   ·refine Vgs hb58 3 ?_
    refine Lg hb58 hs0.at0 ?_
    obtain ⟨x61, hx62, h64⟩ := bind_some h59
    obtain ⟨hi63, hx62'⟩ := Ap hx62
    have hc66 := hE40 _ _ hx62'
    refine Ixg hb58 hi63 ?_
    refine Vgs hb58 1 ?_
    refine Lxg hb58 2 (hs0.pers _ _ hF39) hc66 ?_
    refine Vgs hb58 2 ?_
    refine Pk1 hb58 ?_
    refine Vs 1 ?_
    obtain rfl := Aa h64
    exact Sd ⟨rfl, F0, hs0, (Si _), fI⟩
   ·refine Ss hb58 9 ?_
    refine Pk0 hb58 ?_
    refine Vs 1 ?_
    obtain rfl := Aa h60
    exact Sd ⟨rfl, F0, hs0, (Si _), fI⟩
 ·rintro f w21 ⟨F1, hs22, le23, ⟨_, rfl⟩⟩
  refine Ac ?_
  refine Rt ?_
  obtain rfl := Aa h28
  exact ReB [(.bool j24)] hs22 le23 ⟨rfl, rfl⟩
def Au (N : Nat) (x0 : Ab) (x1 : SF) : Option (Ab × Bool) :=
 ((AY N x0 x1).bind fun r21 => (bif (!r21) then some (x0, false) else ((sub x0.l_ 1 (x0.l_.length : Int)).bind fun r31 => some (({ l_ := r31, open_ := x0.open_ } : Ab), true))))
theorem AH : Al Tryz.prog 80 := fun _ _ => by kernel_rfl
theorem AK (N : Nat) {wb w0 : World} {Fb F0 : Mem} {Lf : Own} (bp0 : Nat) (x0 : Ab) (a0_0 : SG) (n0_0 : Nat) (hb0_0 : LC x0.l_.length n0_0) (hs0_0 : SlA Af F0 a0_0 x0.l_) (x1 : SF) (hs0 : HS wb Fb w0 F0 ((sb bp0 (Ad x0 a0_0 n0_0) 100) :: Lf)) (r : (Ab × Bool)) (h : Au N x0 x1 = some r) :
  Calls Tryz.prog 80 ([(pt bp0 0), (.string ⟨(x1).toArray⟩)] : List Value).toArray w0 (Ll wb Fb F0 fun F' v L' => ∃ (aq0_0 : SG) (nq0_0 : Nat), v = (.bool r.2) /\ L' = (sb bp0 (Ad r.1 aq0_0 nq0_0) 100) :: Lf /\ LC r.1.l_.length nq0_0 /\ SlA Af F' aq0_0 r.1.l_) := by
 refine Go 17 Tryz.func80 ?_
 refine Sq (Rg [0] ?_)
 refine Vs 1 ?_
 refine Nss ?_
 refine Sq (Rg [0, 1, 2, 3] ?_)
 refine Vs 2 ?_
 obtain ⟨r21, hr22, h23⟩ := bind_some h
 refine CB B4 (B9 N bp0 x0 a0_0 n0_0 hb0_0 hs0_0 x1 hs0 _ hr22) ?_
 rintro _ F1 w24 _ hs25 le26 ⟨rfl, rfl⟩
 refine Vs 1 ?_
 refine Nt ?_
 refine Cd h23 (fun hb28 h29 => ?_) (fun hb28 h30 => ?_)
 ·refine Sq (Rg [0] ?_)
  refine Vs 1 ?_
  refine Nt ?_
  refine Rt ?_
  refine Ae ?_
  obtain rfl := Aa h29
  exact ReB [(.bool false)] hs25 le26 ⟨a0_0, n0_0, rfl, rfl, hb0_0, (Sk hs0_0 le26)⟩
 ·refine Sc ?_
  refine Ac ?_
  refine Sq (Rg [0, 1, 2, 3, 4, 5, 6, 7, 8] ?_)
  refine Vs 4 ?_
  refine Ld hs25.at0 ?_
  obtain ⟨r31, hr32, h33⟩ := bind_some h30
  obtain ⟨a34, n35, hb36, hs37, hrun38⟩ := KD (P := Tryz.prog) (T := Af) (lo := (some (.const (vi 1)))) (hi := none) (mx := none) (t := 98) (E := 97) (by_ := 32) (c := n0_0) (a := a0_0) (l := x0.l_) (r := r31) (il := 1) (ih := (x0.l_.length : Int)) (im := 0) (by kernel_rfl) (by kernel_rfl) hb0_0 (Sk hs0_0 le26) (fun h => by first | rfl | cases h) hr32
  refine V 14 98 (hrun38 (x := (.tmp 13)) rfl rfl rfl trivial) ?_
  refine Vs 2 ?_
  refine St0 #[(.slice a34 r31.length n35), (vi x0.open_)] hs25 (fun w39 hs40 => ?_)
  refine Nss (Rg [0] ?_)
  refine Vs 1 ?_
  refine Nt ?_
  refine Rt ?_
  obtain rfl := Aa h33
  exact ReB [(.bool true)] hs40 le26 ⟨a34, n35, rfl, rfl, hb36, hs37⟩
def CX (N : Nat) (x0 : Ab) (x1 : (Ab -> Option (Ah ⊕ (Ab × Expr)))) (x2 : (List (SF × Int))) (r27 : (Ab × Expr)) : (Int × Int × List Expr × List Ar × Int) -> Option (Bi (Ah ⊕ (Ab × Expr)) (Int × Int × List Expr × List Ar × Int)) := fun s42 =>
 ((idx s42.2.2.2.1 0).bind fun x64 => ((bif (!(OV x2 x64.text_)) then some (true, s42.2.2.2.1, s42.2.2.2.2) else ((idx s42.2.2.2.1 0).bind fun x95 => ((Au N ({ l_ := s42.2.2.2.1, open_ := s42.2.2.2.2 } : Ab) x95.text_).bind fun r101 => some ((!r101.2), r101.1.l_, r101.1.open_)))).bind fun j81 => (bif j81.1 then some (.ret (.inr (({ l_ := j81.2.1, open_ := j81.2.2 } : Ab), ({ Op := s42.1, Value := s42.2.1, Kids := s42.2.2.1 } : Expr)))) else (((x1 ({ l_ := j81.2.1, open_ := j81.2.2 } : Ab)).bind fun r129 => sk r129 (fun b146 => some (.inl b146)) (fun r132 => some (.inr (r132.1.l_, r132.1.open_, (JP x2 x64.text_ 0), 0, [({ Op := s42.1, Value := s42.2.1, Kids := s42.2.2.1 } : Expr), r132.2])))).bind fun j119 => sk j119 (fun b158 => some (.ret (.inl b158))) (fun J128 => some (.next (J128.2.2.1, J128.2.2.2.1, J128.2.2.2.2, J128.1, J128.2.1)))))))
def Bt (N : Nat) (x0 : Ab) (x1 : (Ab -> Option (Ah ⊕ (Ab × Expr)))) (x2 : (List (SF × Int))) : Option (Ah ⊕ (Ab × Expr)) :=
 ((x1 x0).bind fun r24 => sk r24 (fun b165 => some (.inl b165)) (fun r27 => ((A0 (CX N x0 x1 x2 r27) N (r27.2.Op, r27.2.Value, r27.2.Kids, r27.1.l_, r27.1.open_)).bind fun o => o.k (fun r => some r) (fun s52 => some (.inr (({ l_ := s52.2.2.2.1, open_ := s52.2.2.2.2 } : Ab), ({ Op := 0, Value := 0, Kids := ([] : List Expr) } : Expr)))))))
theorem Bw : Al Tryz.prog 184 := fun _ _ => by kernel_rfl
theorem BF (N : Nat) {wb w0 : World} {Fb F0 : Mem} {Lf : Own} (hG : B0 F0) (bp0 : Nat) (x0 : Ab) (a0_0 : SG) (n0_0 : Nat) (hb0_0 : LC x0.l_.length n0_0) (hs0_0 : SlA Af F0 a0_0 x0.l_) (gx1 : FuncId) (fx1 kx1 : List Value) (x1 : (Ab -> Option (Ah ⊕ (Ab × Expr)))) (hox1 : Al Tryz.prog gx1) (hpx1 : Rm bp0 gx1 fx1 kx1 x1) (x2 : (List (SF × Int))) (o2_0 : Option Nat) (hm2_0 : MpA EF Ck F0 o2_0 x2) (hs0 : HS wb Fb w0 F0 ((sb bp0 (Ad x0 a0_0 n0_0) 100) :: Lf)) (r : (Ah ⊕ (Ab × Expr))) (h : Bt N x0 x1 x2 = some r) :
  Calls Tryz.prog 184 ([(pt bp0 0), (.func (.func gx1) fx1.toArray kx1.toArray), (.map o2_0)] : List Value).toArray w0 (BB wb Fb F0 Lf r (fun b => (.iface 158 (.agg (AL b)))) fun a F' v L' => ∃ (aq0_0 : SG) (nq0_0 : Nat) (aq1_2 : SG) (nq1_2 : Nat), v = (.agg (Ag a.2 aq1_2 nq1_2)) /\ L' = (sb bp0 (Ad a.1 aq0_0 nq0_0) 100) :: Lf /\ LC a.1.l_.length nq0_0 /\ SlA Af F' aq0_0 a.1.l_ /\ LC a.2.Kids.length nq1_2 /\ SlA Ao F' aq1_2 a.2.Kids) := by
 refine Go 45 Tryz.func184 ?_
 refine Sq (Rg [0] ?_)
 refine Al' 33 #[(vi 0), (vi 0), (.slice none ([] : List Expr).length 0)] hs0 (fun b21 w22 hs23 => ?_)
 refine Nss (Rg [0, 1, 2, 3] ?_)
 refine Vs 1 ?_
 obtain ⟨r24, hr25, h26⟩ := bind_some h
 refine CPq hox1 (hpx1 hG x0 a0_0 n0_0 hb0_0 hs0_0 hs23.pk1 _ hr25) ?_ ?_
 ·rintro r27 _ F1 w29 _ rfl hs30 le31 ⟨ar27_0_0, nr27_0_0, ar27_1_2, nr27_1_2, rfl, rfl, hbr27_0_0, hsr27_0_0, hbr27_1_2, hsr27_1_2⟩
  have h33 := BM h26
  refine Al' 33 #[(vi 0), (vi 0), (.slice none ([] : List Expr).length 0)] hs30 (fun b34 w35 hs36 => ?_)
  refine St0 (Ag r27.2 ar27_1_2 nr27_1_2) hs36 (fun w37 hs38 => ?_)
  refine Nt ?_
  obtain ⟨o39, ho40, h41⟩ := bind_some h33
  refine So (fun f w => ∃ (s52 : (Int × Int × List Expr × List Ar × Int)) (F3 : Mem) (as52_3 : SG) (ns52_3 : Nat), o39 = .done s52 /\ HS wb Fb w F3 ((sb bp0 #[(.slice as52_3 s52.2.2.2.1.length ns52_3), (vi s52.2.2.2.2)] 100) :: (sb b21 #[(vi 0), (vi 0), (.slice none ([] : List Expr).length 0)] 33) :: Lf) /\ Sh F1 F3 /\ FI f [] [(6, (pt b21 0))] /\ LC s52.2.2.2.1.length ns52_3 /\ SlA Af F3 as52_3 s52.2.2.2.1) ?_ ?_
  ·refine Bk ?_
   refine Sg (by kernel_rfl) (fun m f w => ∃ (s42 : (Int × Int × List Expr × List Ar × Int)) (F2 : Mem) (as42_2 : SG) (ns42_2 : Nat) (as42_3 : SG) (ns42_3 : Nat), A0 (CX N x0 x1 x2 r27) m s42 = some o39 /\ HS wb Fb w F2 ((sb b34 #[(vi s42.1), (vi s42.2.1), (.slice as42_2 s42.2.2.1.length ns42_2)] 33) :: (sb bp0 #[(.slice as42_3 s42.2.2.2.1.length ns42_3), (vi s42.2.2.2.2)] 100) :: (sb b21 #[(vi 0), (vi 0), (.slice none ([] : List Expr).length 0)] 33) :: Lf) /\ Sh F1 F2 /\ FI f [] [(0, (pt bp0 0)), (1, (.func (.func gx1) fx1.toArray kx1.toArray)), (2, (.map o2_0)), (6, (pt b21 0)), (7, (pt b34 0))] /\ LC s42.2.2.1.length ns42_2 /\ SlA Ao F2 as42_2 s42.2.2.1 /\ LC s42.2.2.2.1.length ns42_3 /\ SlA Af F2 as42_3 s42.2.2.2.1) N ⟨(r27.2.Op, r27.2.Value, r27.2.Kids, r27.1.l_, r27.1.open_), F1, ar27_1_2, nr27_1_2, ar27_0_0, nr27_0_0, ho40, hs38, (Si _), fI, hbr27_1_2, hsr27_1_2, hbr27_0_0, hsr27_0_0⟩ ?_
   rintro m58 f w43 ⟨s42, F2, as42_2, ns42_2, as42_3, ns42_3, hit59, hs44, le45, ⟨_, rfl⟩, hbs42_2, hss42_2, hbs42_3, hss42_3⟩
   obtain ⟨m60, fl61, rfl, hb62, hnx63⟩ := AQ hit59
   refine Bk ?_
   refine Sq (Rg [0, 1, 2, 3, 4, 5, 6, 7, 8, 9, 10, 11, 12, 13] ?_)
   refine Vs 4 ?_
   refine Ld hs44.at1 ?_
   obtain ⟨x64, hx65, h67⟩ := bind_some hb62
   obtain ⟨hi66, hx65'⟩ := Ap hx65
   obtain ⟨b68, o69, C70, E71, fz72, rfl, hF74, hE75⟩ := Su hss42_3 hx65'
   have hc77 := hE75 _ _ hx65'
   refine Ix hi66 ?_
   refine Vs 1 ?_
   refine Lx 2 (hs44.pers _ _ hF74) hc77 ?_
   refine V 21 213 (NK (mt := 198) (k := 9) (vt := 3) (m := (.tmp 13)) (x := (.tmp 20)) (kv := (.string ⟨(x64.text_).toArray⟩)) (kx := x64.text_) (z := (vi 0)) (zx := 0) (K := EF) (T := Ck) kl9 rfl rfl ⟨_, rfl, rfl⟩ (by kernel_rfl) (by kernel_rfl) ⟨_, rfl, rfl⟩ (MpA.mpw hs44.pers (MpA.mono hm2_0 (le31.trans le45))) (fun h => by obtain ⟨_, rfl, rfl⟩ := h; rfl)) ?_
   refine Vs 5 ?_
   refine Nss ?_
   refine Sq (Rg [0, 1, 2, 3, 4, 5, 6, 7, 8, 9, 10, 11, 12, 13] ?_)
   obtain ⟨j81, hj90, h91⟩ := bind_some h67
   refine Sn (fun f w => ∃ (F4 : Mem) (aj81_1 : SG) (nj81_1 : Nat), HS wb Fb w F4 ((sb b34 #[(vi s42.1), (vi s42.2.1), (.slice as42_2 s42.2.2.1.length ns42_2)] 33) :: (sb bp0 #[(.slice aj81_1 j81.2.1.length nj81_1), (vi j81.2.2)] 100) :: (sb b21 #[(vi 0), (vi 0), (.slice none ([] : List Expr).length 0)] 33) :: Lf) /\ Sh F2 F4 /\ FI f [] [(0, (pt bp0 0)), (1, (.func (.func gx1) fx1.toArray kx1.toArray)), (2, (.map o2_0)), (6, (pt b21 0)), (7, (pt b34 0)), (8, (vi (JP x2 x64.text_ 0))), (37, (.bool j81.1))] /\ LC j81.2.1.length nj81_1 /\ SlA Af F4 aj81_1 j81.2.1) ?_ ?_
   ·refine Vs 3 ?_
    refine Sp hj90 (fun hb92 h93 => ?_) (fun hb92 h94 => ?_)
    ·refine Ss hb92 10 ?_
     refine Pk1 hb92 ?_
     obtain rfl := Aa h93
     exact Sd ⟨rfl, F2, (some ⟨b68, o69, none⟩), ns42_3, hs44, (Si _), fI, hbs42_3, hss42_3⟩
    ·refine Vgs hb92 4 ?_
     refine Lg hb92 hs44.at1 ?_
     obtain ⟨x95, hx96, h98⟩ := bind_some h94
     obtain ⟨hi97, hx96'⟩ := Ap hx96
     have hc100 := hE75 _ _ hx96'
     refine Ixg hb92 hi97 ?_
     refine Vgs hb92 1 ?_
     refine Lxg hb92 2 (hs44.pers _ _ hF74) hc100 ?_
     obtain ⟨r101, hr102, h103⟩ := bind_some h98
     refine RWP.callB (dst := (some 35)) (ty := 4) (g := (some (2, false))) (by kernel_rfl) (N5 (d := 26) (by kernel_rfl) rfl hb92) (f0 := (.func 80)) (aos := #[(.tmp 27), (.tmp 34)]) (ats := #[95, 9]) (fid := 80) (first := #[]) (cap := #[]) (args := [(pt bp0 0), (.string ⟨(x95.text_).toArray⟩)]) rfl AH rfl (AK N bp0 (({ l_ := s42.2.2.2.1, open_ := s42.2.2.2.2 } : Ab)) (some ⟨b68, o69, none⟩) ns42_3 hbs42_3 hss42_3 x95.text_ hs44.pk2.pk1.pk2 _ hr102) ?_
     rintro _ F5 w104 _ hs105 le106 ⟨ar101_0_0, nr101_0_0, rfl, rfl, hbr101_0_0, hsr101_0_0⟩
     refine Vgs hb92 1 ?_
     refine Pk0 hb92 ?_
     obtain rfl := Aa h103
     exact Sd ⟨rfl, F5, ar101_0_0, nr101_0_0, hs105.pk2.pk1.pk2, le106, fI, hbr101_0_0, hsr101_0_0⟩
   ·rintro f w78 ⟨F4, aj81_1, nj81_1, hs79, le80, ⟨_, rfl⟩, hbj81_1, hsj81_1⟩
    refine Ac ?_
    refine Cd h91 (fun hb108 h109 => ?_) (fun hb108 h110 => ?_)
    ·refine Sq (Rg [0, 1] ?_)
     refine Ld hs79.at0 ?_
     refine St2 #[(vi s42.1), (vi s42.2.1), (.slice as42_2 s42.2.2.1.length ns42_2)] hs79 (fun w111 hs112 => ?_)
     refine Nt ?_
     refine Rt ?_
     refine Ae ?_
     refine Ai ?_
     refine Ae ?_
     refine Ai ?_
     have hret := BJ h109 hnx63
     subst hret
     refine .inr ?_
     obtain rfl := Aa h41
     exact ⟨rfl, (.agg #[(vi s42.1), (vi s42.2.1), (.slice as42_2 s42.2.2.1.length ns42_2)]), AC (l := [.cell 6 33]) (by kernel_rfl) (vs := [(.agg #[(vi s42.1), (vi s42.2.1), (.slice as42_2 s42.2.2.1.length ns42_2)])]) ⟨b21, 0, rfl, Aj (t := 33) (g := true) (s := 3) (by kernel_rfl) hs112.at2 rfl (by decide), trivial⟩, .inl ⟨_, F4, _, _, rfl, rfl, hs112.dr0.dr1, ((le31.trans le45).trans le80), ⟨aj81_1, nj81_1, as42_2, ns42_2, rfl, rfl, hbj81_1, hsj81_1, hbs42_2, (Sk hss42_2 le80)⟩⟩⟩
    ·refine Sc ?_
     refine Ac ?_
     obtain ⟨j119, hj126, h127⟩ := bind_some h110
     refine RDP 6 7 [(sb b21 #[(vi 0), (vi 0), (.slice none ([] : List Expr).length 0)] 33)] [(sb b34 #[(vi s42.1), (vi s42.2.1), (.slice as42_2 s42.2.2.1.length ns42_2)] 33)] hs79 (fun c d w => d = [] /\ ∃ (b : Ah) (Fp : Mem), j119 = .inl b /\ c = [{ v := (.iface 158 (.agg (AL b))), recovered := false }] /\ HS wb Fb w Fp Lf /\ Sh F4 Fp) (fun f w => ∃ (J128 : (List Ar × Int × Int × Int × List Expr)), j119 = .inr J128 /\ ∃ (F6 : Mem) (aj119_0 : SG) (nj119_0 : Nat) (aj119_4 : SG) (nj119_4 : Nat) (ej119_4 : Option Nat × Obj), HS wb Fb w F6 (ej119_4 :: (sb b34 #[(vi J128.2.2.1), (vi J128.2.2.2.1), (.slice aj119_4 J128.2.2.2.2.length nj119_4)] 33) :: (sb bp0 #[(.slice aj119_0 J128.1.length nj119_0), (vi J128.2.1)] 100) :: (sb b21 #[(vi 0), (vi 0), (.slice none ([] : List Expr).length 0)] 33) :: Lf) /\ Sh F4 F6 /\ FI f [] [(0, (pt bp0 0)), (1, (.func (.func gx1) fx1.toArray kx1.toArray)), (2, (.map o2_0)), (6, (pt b21 0)), (7, (pt b34 0))] /\ LC J128.1.length nj119_0 /\ SlA Af F6 aj119_0 J128.1 /\ Aw Ao 33 F6 aj119_4 nj119_4 J128.2.2.2.2 ej119_4) (fun wd113 hw114 => ?_) ?_ ?_
     ·refine Dv [0] ?_
      refine Dl 1 (fun _ hq => ((hq.2 rfl).2 0 _ _ rfl)) ?_
      refine Dv [2] ?_
      refine D1 3 ?_
      obtain ⟨r129, hr130, h131⟩ := bind_some hj126
      refine AA.callBP (l' := [true, true, true, true, false, false, false]) (zd := false) (by kernel_rfl) (by kernel_rfl) (Lf := (sb b34 #[(vi s42.1), (vi s42.2.1), (.slice as42_2 s42.2.2.1.length ns42_2)] 33) :: (sb b21 #[(vi 0), (vi 0), (.slice none ([] : List Expr).length 0)] 33) :: Lf) (dst := (some 42)) (ty := 33) (g := none) (by kernel_rfl) rfl (f0 := (.tmp 41)) (aos := #[]) (ats := #[]) (fid := gx1) (first := fx1.toArray) (cap := kx1.toArray) (args := (fx1 ++ (([] : List Value) ++ kx1))) rfl hox1 (O5 (l := []) (fi := fx1) (k := kx1) rfl) (hpx1 (hG.mono ((le31.trans le45).trans le80)) (({ l_ := j81.2.1, open_ := j81.2.2 } : Ab)) aj81_1 nj81_1 hbj81_1 hsj81_1 hw114.pk2.pk1.pk2 _ hr130) ?_ ?_
      ·rintro r132 _ F7 w134 _ rfl hs135 le136 ⟨ar132_0_0, nr132_0_0, ar132_1_2, nr132_1_2, rfl, rfl, hbr132_0_0, hsr132_0_0, hbr132_1_2, hsr132_1_2⟩
       have h138 := BM h131
       refine ⟨Bu hs135 le136 (by simp) (fun _ => by simp), ?_⟩
       refine D1 4 ?_
       refine DBs 33 [(vi s42.1), (vi s42.2.1), (.slice as42_2 s42.2.2.1.length ns42_2), (vi r132.2.Op), (vi r132.2.Value), (.slice ar132_1_2 r132.2.Kids.length nr132_1_2)] hs135 le136 (fun b139 w140 hs141 => ?_)
       have hr143 : Aw Ao 33 F7 (some ⟨b139, 0, none⟩) 2 [({ Op := s42.1, Value := s42.2.1, Kids := s42.2.2.1 } : Expr), r132.2] (some b139, .cells ([(vi s42.1), (vi s42.2.1), (.slice as42_2 s42.2.2.1.length ns42_2), (vi r132.2.Op), (vi r132.2.Value), (.slice ar132_1_2 r132.2.Kids.length nr132_1_2)] : List Value).toArray 33 (0, 0)) := SC ⟨(Bb ⟨as42_2, ns42_2, rfl, hbs42_2, (Sk hss42_2 (le80.trans le136))⟩), ⟨(Bb ⟨ar132_1_2, nr132_1_2, rfl, hbr132_1_2, hsr132_1_2⟩), rfl⟩⟩ (by simp)
       refine Dv [5] ?_
       refine D1 6 ?_
       refine R9 #[(vi (JP x2 x64.text_ 0)), (vi 0), (.slice (some ⟨b139, 0, none⟩) [({ Op := s42.1, Value := s42.2.1, Kids := s42.2.2.1 } : Expr), r132.2].length 2)] hs141 le136 (fun w144 hs145 => ?_)
       obtain rfl := Aa h138
       exact SA (by kernel_rfl) ⟨_, rfl, F7, ar132_0_0, nr132_0_0, (some ⟨b139, 0, none⟩), 2, (some b139, .cells ([(vi s42.1), (vi s42.2.1), (.slice as42_2 s42.2.2.1.length ns42_2), (vi r132.2.Op), (vi r132.2.Value), (.slice ar132_1_2 r132.2.Kids.length nr132_1_2)] : List Value).toArray 33 (0, 0)), hs145.pk3.pk2.pk3.pk3, le136, fI, hbr132_0_0, hsr132_0_0, hr143⟩
      ·rintro b146 F8 w147 rfl hs148 le149
       have h150 := Bj h131
       obtain rfl := Aa h150
       exact ⟨rfl, _, _, rfl, rfl, hs148.dr0.dr0, le149⟩
     ·rintro f w115 ⟨J128, rfl, F6, aj119_0, nj119_0, aj119_4, nj119_4, ej119_4, hs116, le117, ⟨_, rfl⟩, hbj119_0, hsj119_0, hrj119_4⟩
      have h152 := BM h127
      refine Aq ?_
      have hb156 := SB hrj119_4
      obtain ⟨F9, hs153, le154, hs155⟩ := hs116.fr0 hrj119_4
      have hn157 := AM h152 hnx63
      exact ⟨m60, Nat.lt_succ_self _, (J128.2.2.1, J128.2.2.2.1, J128.2.2.2.2, J128.1, J128.2.1), F9, aj119_4, nj119_4, aj119_0, nj119_0, hn157, hs153, (((le45.trans le80).trans le117).trans le154), fI, hb156, hs155, hbj119_0, (Sk hsj119_0 le154)⟩
     ·rintro c f w159 ⟨hd162, b158, F10, rfl, rfl, hs160, le161⟩
      have h163 := Bj h127
      refine AR ?_
      refine Am ?_
      refine AR ?_
      have hret := BJ h163 hnx63
      subst hret
      refine .inr ?_
      obtain rfl := Aa h41
      exact ⟨hd162, .inr ⟨_, F10, rfl, rfl, hs160, (((le31.trans le45).trans le80).trans le161)⟩⟩
  ·rintro f w53 ⟨s52, F3, as52_3, ns52_3, rfl, hs54, le55, ⟨_, rfl⟩, hbs52_3, hss52_3⟩
   have h164 := Bo h41
   obtain rfl := Aa h164
   exact ⟨rfl, (.agg #[(vi 0), (vi 0), (.slice none ([] : List Expr).length 0)]), AC (l := [.cell 6 33]) (by kernel_rfl) (vs := [(.agg #[(vi 0), (vi 0), (.slice none ([] : List Expr).length 0)])]) ⟨b21, 0, rfl, Aj (t := 33) (g := true) (s := 3) (by kernel_rfl) hs54.at1 rfl (by decide), trivial⟩, .inl ⟨_, F3, _, _, rfl, rfl, hs54.dr1, (le31.trans le55), ⟨as52_3, ns52_3, none, 0, rfl, rfl, hbs52_3, hss52_3, Sl, (.inl rfl)⟩⟩⟩
 ·rintro b165 F11 w166 rfl hs167 le168
  have h169 := Bj h26
  refine Am ?_
  obtain rfl := Aa h169
  exact Cj hs167.dr0 le168
def ML (sR145 : Ab -> Option (Ah ⊕ (Ab × Expr))) : Prop := ∀ {wb w0 : World} {Fb F0 : Mem} {Lf : Own} (hG : B0 F0) (bp0 : Nat) (x0 : Ab) (a0_0 : SG) (n0_0 : Nat) (hb0_0 : LC x0.l_.length n0_0) (hs0_0 : SlA Af F0 a0_0 x0.l_) (hs0 : HS wb Fb w0 F0 ((some bp0, (.cells #[(.slice a0_0 x0.l_.length n0_0), (.int .i64 x0.open_)] 100 (0, 0))) :: Lf)) (r : (Ah ⊕ (Ab × Expr))), sR145 x0 = some r -> Calls Tryz.prog 145 ([(.pointer (some ⟨bp0, 0, none⟩))] : List Value).toArray w0 (BB wb Fb F0 Lf r (fun b => (.iface 158 (.agg #[(.int .i64 b.e_), (.int .i64 b.at_)]))) fun a F' v L' => ∃ (aq0_0 : SG) (nq0_0 : Nat) (aq1_2 : SG) (nq1_2 : Nat), v = (.agg #[(.int .i64 a.2.Op), (.int .i64 a.2.Value), (.slice aq1_2 a.2.Kids.length nq1_2)]) /\ L' = (some bp0, (.cells #[(.slice aq0_0 a.1.l_.length nq0_0), (.int .i64 a.1.open_)] 100 (0, 0))) :: Lf /\ LC a.1.l_.length nq0_0 /\ SlA Af F' aq0_0 a.1.l_ /\ LC a.2.Kids.length nq1_2 /\ SlA Ao F' aq1_2 a.2.Kids)
theorem BA : Al Tryz.prog 145 := fun _ _ => by kernel_rfl
def MG (sR185 : Ab -> Option (Ah ⊕ (Ab × Expr))) : Prop := ∀ {wb w0 : World} {Fb F0 : Mem} {Lf : Own} (hG : B0 F0) (bp0 : Nat) (x0 : Ab) (a0_0 : SG) (n0_0 : Nat) (hb0_0 : LC x0.l_.length n0_0) (hs0_0 : SlA Af F0 a0_0 x0.l_) (hs0 : HS wb Fb w0 F0 ((some bp0, (.cells #[(.slice a0_0 x0.l_.length n0_0), (.int .i64 x0.open_)] 100 (0, 0))) :: Lf)) (r : (Ah ⊕ (Ab × Expr))), sR185 x0 = some r -> Calls Tryz.prog 185 ([(.pointer (some ⟨bp0, 0, none⟩))] : List Value).toArray w0 (BB wb Fb F0 Lf r (fun b => (.iface 158 (.agg #[(.int .i64 b.e_), (.int .i64 b.at_)]))) fun a F' v L' => ∃ (aq0_0 : SG) (nq0_0 : Nat) (aq1_2 : SG) (nq1_2 : Nat), v = (.agg #[(.int .i64 a.2.Op), (.int .i64 a.2.Value), (.slice aq1_2 a.2.Kids.length nq1_2)]) /\ L' = (some bp0, (.cells #[(.slice aq0_0 a.1.l_.length nq0_0), (.int .i64 a.1.open_)] 100 (0, 0))) :: Lf /\ LC a.1.l_.length nq0_0 /\ SlA Af F' aq0_0 a.1.l_ /\ LC a.2.Kids.length nq1_2 /\ SlA Ao F' aq1_2 a.2.Kids)
theorem GU : Al Tryz.prog 185 := fun _ _ => by kernel_rfl
def Kj (sR212 : Ab -> Option (Ah ⊕ (Ab × Expr))) : Prop := ∀ {wb w0 : World} {Fb F0 : Mem} {Lf : Own} (hG : B0 F0) (bp0 : Nat) (x0 : Ab) (a0_0 : SG) (n0_0 : Nat) (hb0_0 : LC x0.l_.length n0_0) (hs0_0 : SlA Af F0 a0_0 x0.l_) (hs0 : HS wb Fb w0 F0 ((some bp0, (.cells #[(.slice a0_0 x0.l_.length n0_0), (.int .i64 x0.open_)] 100 (0, 0))) :: Lf)) (r : (Ah ⊕ (Ab × Expr))), sR212 x0 = some r -> Calls Tryz.prog 212 ([(.pointer (some ⟨bp0, 0, none⟩))] : List Value).toArray w0 (BB wb Fb F0 Lf r (fun b => (.iface 158 (.agg #[(.int .i64 b.e_), (.int .i64 b.at_)]))) fun a F' v L' => ∃ (aq0_0 : SG) (nq0_0 : Nat) (aq1_2 : SG) (nq1_2 : Nat), v = (.agg #[(.int .i64 a.2.Op), (.int .i64 a.2.Value), (.slice aq1_2 a.2.Kids.length nq1_2)]) /\ L' = (some bp0, (.cells #[(.slice aq0_0 a.1.l_.length nq0_0), (.int .i64 a.1.open_)] 100 (0, 0))) :: Lf /\ LC a.1.l_.length nq0_0 /\ SlA Af F' aq0_0 a.1.l_ /\ LC a.2.Kids.length nq1_2 /\ SlA Ao F' aq1_2 a.2.Kids)
theorem D6 : Al Tryz.prog 212 := fun _ _ => by kernel_rfl
def ME (sR226 : Ab -> Option (Ah ⊕ (Ab × Expr))) : Prop := ∀ {wb w0 : World} {Fb F0 : Mem} {Lf : Own} (hG : B0 F0) (bp0 : Nat) (x0 : Ab) (a0_0 : SG) (n0_0 : Nat) (hb0_0 : LC x0.l_.length n0_0) (hs0_0 : SlA Af F0 a0_0 x0.l_) (hs0 : HS wb Fb w0 F0 ((some bp0, (.cells #[(.slice a0_0 x0.l_.length n0_0), (.int .i64 x0.open_)] 100 (0, 0))) :: Lf)) (r : (Ah ⊕ (Ab × Expr))), sR226 x0 = some r -> Calls Tryz.prog 226 ([(.pointer (some ⟨bp0, 0, none⟩))] : List Value).toArray w0 (BB wb Fb F0 Lf r (fun b => (.iface 158 (.agg #[(.int .i64 b.e_), (.int .i64 b.at_)]))) fun a F' v L' => ∃ (aq0_0 : SG) (nq0_0 : Nat) (aq1_2 : SG) (nq1_2 : Nat), v = (.agg #[(.int .i64 a.2.Op), (.int .i64 a.2.Value), (.slice aq1_2 a.2.Kids.length nq1_2)]) /\ L' = (some bp0, (.cells #[(.slice aq0_0 a.1.l_.length nq0_0), (.int .i64 a.1.open_)] 100 (0, 0))) :: Lf /\ LC a.1.l_.length nq0_0 /\ SlA Af F' aq0_0 a.1.l_ /\ LC a.2.Kids.length nq1_2 /\ SlA Ao F' aq1_2 a.2.Kids)
theorem GQ : Al Tryz.prog 226 := fun _ _ => by kernel_rfl
def MD (sR233 : Ab -> Option (Ah ⊕ (Ab × Expr))) : Prop := ∀ {wb w0 : World} {Fb F0 : Mem} {Lf : Own} (hG : B0 F0) (bp0 : Nat) (x0 : Ab) (a0_0 : SG) (n0_0 : Nat) (hb0_0 : LC x0.l_.length n0_0) (hs0_0 : SlA Af F0 a0_0 x0.l_) (hs0 : HS wb Fb w0 F0 ((some bp0, (.cells #[(.slice a0_0 x0.l_.length n0_0), (.int .i64 x0.open_)] 100 (0, 0))) :: Lf)) (r : (Ah ⊕ (Ab × Expr))), sR233 x0 = some r -> Calls Tryz.prog 233 ([(.pointer (some ⟨bp0, 0, none⟩))] : List Value).toArray w0 (BB wb Fb F0 Lf r (fun b => (.iface 158 (.agg #[(.int .i64 b.e_), (.int .i64 b.at_)]))) fun a F' v L' => ∃ (aq0_0 : SG) (nq0_0 : Nat) (aq1_2 : SG) (nq1_2 : Nat), v = (.agg #[(.int .i64 a.2.Op), (.int .i64 a.2.Value), (.slice aq1_2 a.2.Kids.length nq1_2)]) /\ L' = (some bp0, (.cells #[(.slice aq0_0 a.1.l_.length nq0_0), (.int .i64 a.1.open_)] 100 (0, 0))) :: Lf /\ LC a.1.l_.length nq0_0 /\ SlA Af F' aq0_0 a.1.l_ /\ LC a.2.Kids.length nq1_2 /\ SlA Ao F' aq1_2 a.2.Kids)
theorem BK : Al Tryz.prog 233 := fun _ _ => by kernel_rfl
def MC (sR239 : Ab -> Option (Ah ⊕ (Ab × Expr))) : Prop := ∀ {wb w0 : World} {Fb F0 : Mem} {Lf : Own} (hG : B0 F0) (bp0 : Nat) (x0 : Ab) (a0_0 : SG) (n0_0 : Nat) (hb0_0 : LC x0.l_.length n0_0) (hs0_0 : SlA Af F0 a0_0 x0.l_) (hs0 : HS wb Fb w0 F0 ((some bp0, (.cells #[(.slice a0_0 x0.l_.length n0_0), (.int .i64 x0.open_)] 100 (0, 0))) :: Lf)) (r : (Ah ⊕ (Ab × Expr))), sR239 x0 = some r -> Calls Tryz.prog 239 ([(.pointer (some ⟨bp0, 0, none⟩))] : List Value).toArray w0 (BB wb Fb F0 Lf r (fun b => (.iface 158 (.agg #[(.int .i64 b.e_), (.int .i64 b.at_)]))) fun a F' v L' => ∃ (aq0_0 : SG) (nq0_0 : Nat) (aq1_2 : SG) (nq1_2 : Nat), v = (.agg #[(.int .i64 a.2.Op), (.int .i64 a.2.Value), (.slice aq1_2 a.2.Kids.length nq1_2)]) /\ L' = (some bp0, (.cells #[(.slice aq0_0 a.1.l_.length nq0_0), (.int .i64 a.1.open_)] 100 (0, 0))) :: Lf /\ LC a.1.l_.length nq0_0 /\ SlA Af F' aq0_0 a.1.l_ /\ LC a.2.Kids.length nq1_2 /\ SlA Ao F' aq1_2 a.2.Kids)
theorem GR : Al Tryz.prog 239 := fun _ _ => by kernel_rfl
def MB (sR243 : Ab -> Option (Ah ⊕ (Ab × Expr))) : Prop := ∀ {wb w0 : World} {Fb F0 : Mem} {Lf : Own} (hG : B0 F0) (bp0 : Nat) (x0 : Ab) (a0_0 : SG) (n0_0 : Nat) (hb0_0 : LC x0.l_.length n0_0) (hs0_0 : SlA Af F0 a0_0 x0.l_) (hs0 : HS wb Fb w0 F0 ((some bp0, (.cells #[(.slice a0_0 x0.l_.length n0_0), (.int .i64 x0.open_)] 100 (0, 0))) :: Lf)) (r : (Ah ⊕ (Ab × Expr))), sR243 x0 = some r -> Calls Tryz.prog 243 ([(.pointer (some ⟨bp0, 0, none⟩))] : List Value).toArray w0 (BB wb Fb F0 Lf r (fun b => (.iface 158 (.agg #[(.int .i64 b.e_), (.int .i64 b.at_)]))) fun a F' v L' => ∃ (aq0_0 : SG) (nq0_0 : Nat) (aq1_2 : SG) (nq1_2 : Nat), v = (.agg #[(.int .i64 a.2.Op), (.int .i64 a.2.Value), (.slice aq1_2 a.2.Kids.length nq1_2)]) /\ L' = (some bp0, (.cells #[(.slice aq0_0 a.1.l_.length nq0_0), (.int .i64 a.1.open_)] 100 (0, 0))) :: Lf /\ LC a.1.l_.length nq0_0 /\ SlA Af F' aq0_0 a.1.l_ /\ LC a.2.Kids.length nq1_2 /\ SlA Ao F' aq1_2 a.2.Kids)
theorem GT : Al Tryz.prog 243 := fun _ _ => by kernel_rfl
def El (N : Nat) (sR185 : Ab -> Option (Ah ⊕ (Ab × Expr))) (x0 : Ab) : Option (Ah ⊕ (Ab × Expr)) :=
 ((Bt N x0 (fun y => sR185 y) (EL ([] : List (SF × Int)) ([111, 114] : SF) 5)).bind fun r37 => sk r37 (fun b49 => some (.inl b49)) (fun r40 => some (.inr (r40.1, r40.2))))
theorem Hc (N : Nat) (sR185 : Ab -> Option (Ah ⊕ (Ab × Expr))) (hsR185 : MG sR185) {wb w0 : World} {Fb F0 : Mem} {Lf : Own} (hG : B0 F0) (bp0 : Nat) (x0 : Ab) (a0_0 : SG) (n0_0 : Nat) (hb0_0 : LC x0.l_.length n0_0) (hs0_0 : SlA Af F0 a0_0 x0.l_) (hs0 : HS wb Fb w0 F0 ((sb bp0 (Ad x0 a0_0 n0_0) 100) :: Lf)) (r : (Ah ⊕ (Ab × Expr))) (h : El N sR185 x0 = some r) :
  Calls Tryz.prog 145 ([(pt bp0 0)] : List Value).toArray w0 (BB wb Fb F0 Lf r (fun b => (.iface 158 (.agg (AL b)))) fun a F' v L' => ∃ (aq0_0 : SG) (nq0_0 : Nat) (aq1_2 : SG) (nq1_2 : Nat), v = (.agg (Ag a.2 aq1_2 nq1_2)) /\ L' = (sb bp0 (Ad a.1 aq0_0 nq0_0) 100) :: Lf /\ LC a.1.l_.length nq0_0 /\ SlA Af F' aq0_0 a.1.l_ /\ LC a.2.Kids.length nq1_2 /\ SlA Ao F' aq1_2 a.2.Kids) := by
 refine Go 9 Tryz.func145 ?_
 refine Sq (Rg [0] ?_)
 refine Al' 33 #[(vi 0), (vi 0), (.slice none ([] : List Expr).length 0)] hs0 (fun b21 w22 hs23 => ?_)
 refine Nss (Rg [0, 1, 2, 3, 4, 5, 6, 7] ?_)
 refine Vs 3 ?_
 refine RWP.makeMap (t := 198) (K := EF) (T := Ck) (dst := (some 6)) (ty := 198) (g := none) (by kernel_rfl) rfl hs23 (fun b25 e26 w27 (hs28 : HS wb Fb w27 F0 (e26 :: (sb b21 #[(vi 0), (vi 0), (.slice none ([] : List Expr).length 0)] 33) :: (sb bp0 (Ad x0 a0_0 n0_0) 100) :: Lf)) hr29 => ?_)
 refine RWP.mapIns kl9 (ty := 0) (g := none) (mt := 198) (k := 9) (vt := 3) (m := (.tmp 6)) (x := (.const (.string ⟨([111, 114] : SF).toArray⟩))) (y := (.const (vi 5))) (b := b25) (kx := ([111, 114] : SF)) (u := 5) (kv := (.string ⟨(([111, 114] : SF)).toArray⟩)) (v := (vi 5)) (K := EF) (T := Ck) (by kernel_rfl) rfl rfl rfl rfl ⟨_, rfl, rfl⟩ ⟨_, rfl, rfl⟩ (by kernel_rfl) hs28 (q := 0) rfl hr29 (fun e30 w31 (hs32 : HS wb Fb w31 F0 (e30 :: (sb b21 #[(vi 0), (vi 0), (.slice none ([] : List Expr).length 0)] 33) :: (sb bp0 (Ad x0 a0_0 n0_0) 100) :: Lf)) hr33 => ?_)
 refine Vs 1 ?_
 obtain ⟨F1, hs34, le35, hm36⟩ : ∃ Fq, HS wb Fb w31 Fq ((sb b21 #[(vi 0), (vi 0), (.slice none ([] : List Expr).length 0)] 33) :: (sb bp0 (Ad x0 a0_0 n0_0) 100) :: Lf) /\ Sh F0 Fq /\ MpA EF Ck Fq (some b25) (EL ([] : List (SF × Int)) ([111, 114] : SF) 5) := HS.freezeMap hs32 (i := 0) rfl hr33
 obtain ⟨r37, hr38, h39⟩ := bind_some h
 refine CP Bw (BF N (hG.mono le35) bp0 x0 a0_0 n0_0 hb0_0 (Sk hs0_0 le35) 185 [(pt bp0 0)] ([] : List Value) (fun y => sR185 y) GU (fun {_ _ _ _ _} hGe y ay_0 ny_0 hby_0 hsy_0 hs r h => hsR185 hGe bp0 y ay_0 ny_0 hby_0 hsy_0 hs r h) ((EL ([] : List (SF × Int)) ([111, 114] : SF) 5)) (some b25) hm36 hs34.pk1 _ hr38) ?_ ?_
 ·rintro r40 _ F2 w42 _ rfl hs43 le44 ⟨ar40_0_0, nr40_0_0, ar40_1_2, nr40_1_2, rfl, rfl, hbr40_0_0, hsr40_0_0, hbr40_1_2, hsr40_1_2⟩
  have h46 := BM h39
  refine St1 (Ag r40.2 ar40_1_2 nr40_1_2) hs43 (fun w47 hs48 => ?_)
  refine Nt ?_
  refine Rt ?_
  obtain rfl := Aa h46
  exact ⟨rfl, (.agg (Ag r40.2 ar40_1_2 nr40_1_2)), AC (l := [.cell 2 33]) (by kernel_rfl) (vs := [(.agg (Ag r40.2 ar40_1_2 nr40_1_2))]) ⟨b21, 0, rfl, Aj (t := 33) (g := true) (s := 3) (by kernel_rfl) hs48.at1 rfl (by decide), trivial⟩, .inl ⟨_, F2, _, _, rfl, rfl, hs48.dr1, (le35.trans le44), ⟨ar40_0_0, nr40_0_0, ar40_1_2, nr40_1_2, rfl, rfl, hbr40_0_0, hsr40_0_0, hbr40_1_2, hsr40_1_2⟩⟩⟩
 ·rintro b49 F3 w50 rfl hs51 le52
  have h53 := Bj h39
  refine Am ?_
  obtain rfl := Aa h53
  exact Cj hs51.dr0 (le35.trans le52)
def En (N : Nat) (sR212 : Ab -> Option (Ah ⊕ (Ab × Expr))) (x0 : Ab) : Option (Ah ⊕ (Ab × Expr)) :=
 ((Bt N x0 (fun y => sR212 y) (EL ([] : List (SF × Int)) ([97, 110, 100] : SF) 4)).bind fun r37 => sk r37 (fun b49 => some (.inl b49)) (fun r40 => some (.inr (r40.1, r40.2))))
theorem He (N : Nat) (sR212 : Ab -> Option (Ah ⊕ (Ab × Expr))) (hsR212 : Kj sR212) {wb w0 : World} {Fb F0 : Mem} {Lf : Own} (hG : B0 F0) (bp0 : Nat) (x0 : Ab) (a0_0 : SG) (n0_0 : Nat) (hb0_0 : LC x0.l_.length n0_0) (hs0_0 : SlA Af F0 a0_0 x0.l_) (hs0 : HS wb Fb w0 F0 ((sb bp0 (Ad x0 a0_0 n0_0) 100) :: Lf)) (r : (Ah ⊕ (Ab × Expr))) (h : En N sR212 x0 = some r) :
  Calls Tryz.prog 185 ([(pt bp0 0)] : List Value).toArray w0 (BB wb Fb F0 Lf r (fun b => (.iface 158 (.agg (AL b)))) fun a F' v L' => ∃ (aq0_0 : SG) (nq0_0 : Nat) (aq1_2 : SG) (nq1_2 : Nat), v = (.agg (Ag a.2 aq1_2 nq1_2)) /\ L' = (sb bp0 (Ad a.1 aq0_0 nq0_0) 100) :: Lf /\ LC a.1.l_.length nq0_0 /\ SlA Af F' aq0_0 a.1.l_ /\ LC a.2.Kids.length nq1_2 /\ SlA Ao F' aq1_2 a.2.Kids) := by
 refine Go 9 Tryz.func185 ?_
 refine Sq (Rg [0] ?_)
 refine Al' 33 #[(vi 0), (vi 0), (.slice none ([] : List Expr).length 0)] hs0 (fun b21 w22 hs23 => ?_)
 refine Nss (Rg [0, 1, 2, 3, 4, 5, 6, 7] ?_)
 refine Vs 3 ?_
 refine RWP.makeMap (t := 198) (K := EF) (T := Ck) (dst := (some 6)) (ty := 198) (g := none) (by kernel_rfl) rfl hs23 (fun b25 e26 w27 (hs28 : HS wb Fb w27 F0 (e26 :: (sb b21 #[(vi 0), (vi 0), (.slice none ([] : List Expr).length 0)] 33) :: (sb bp0 (Ad x0 a0_0 n0_0) 100) :: Lf)) hr29 => ?_)
 refine RWP.mapIns kl9 (ty := 0) (g := none) (mt := 198) (k := 9) (vt := 3) (m := (.tmp 6)) (x := (.const (.string ⟨([97, 110, 100] : SF).toArray⟩))) (y := (.const (vi 4))) (b := b25) (kx := ([97, 110, 100] : SF)) (u := 4) (kv := (.string ⟨(([97, 110, 100] : SF)).toArray⟩)) (v := (vi 4)) (K := EF) (T := Ck) (by kernel_rfl) rfl rfl rfl rfl ⟨_, rfl, rfl⟩ ⟨_, rfl, rfl⟩ (by kernel_rfl) hs28 (q := 0) rfl hr29 (fun e30 w31 (hs32 : HS wb Fb w31 F0 (e30 :: (sb b21 #[(vi 0), (vi 0), (.slice none ([] : List Expr).length 0)] 33) :: (sb bp0 (Ad x0 a0_0 n0_0) 100) :: Lf)) hr33 => ?_)
 refine Vs 1 ?_
 obtain ⟨F1, hs34, le35, hm36⟩ : ∃ Fq, HS wb Fb w31 Fq ((sb b21 #[(vi 0), (vi 0), (.slice none ([] : List Expr).length 0)] 33) :: (sb bp0 (Ad x0 a0_0 n0_0) 100) :: Lf) /\ Sh F0 Fq /\ MpA EF Ck Fq (some b25) (EL ([] : List (SF × Int)) ([97, 110, 100] : SF) 4) := HS.freezeMap hs32 (i := 0) rfl hr33
 obtain ⟨r37, hr38, h39⟩ := bind_some h
 refine CP Bw (BF N (hG.mono le35) bp0 x0 a0_0 n0_0 hb0_0 (Sk hs0_0 le35) 212 [(pt bp0 0)] ([] : List Value) (fun y => sR212 y) D6 (fun {_ _ _ _ _} hGe y ay_0 ny_0 hby_0 hsy_0 hs r h => hsR212 hGe bp0 y ay_0 ny_0 hby_0 hsy_0 hs r h) ((EL ([] : List (SF × Int)) ([97, 110, 100] : SF) 4)) (some b25) hm36 hs34.pk1 _ hr38) ?_ ?_
 ·rintro r40 _ F2 w42 _ rfl hs43 le44 ⟨ar40_0_0, nr40_0_0, ar40_1_2, nr40_1_2, rfl, rfl, hbr40_0_0, hsr40_0_0, hbr40_1_2, hsr40_1_2⟩
  have h46 := BM h39
  refine St1 (Ag r40.2 ar40_1_2 nr40_1_2) hs43 (fun w47 hs48 => ?_)
  refine Nt ?_
  refine Rt ?_
  obtain rfl := Aa h46
  exact ⟨rfl, (.agg (Ag r40.2 ar40_1_2 nr40_1_2)), AC (l := [.cell 2 33]) (by kernel_rfl) (vs := [(.agg (Ag r40.2 ar40_1_2 nr40_1_2))]) ⟨b21, 0, rfl, Aj (t := 33) (g := true) (s := 3) (by kernel_rfl) hs48.at1 rfl (by decide), trivial⟩, .inl ⟨_, F2, _, _, rfl, rfl, hs48.dr1, (le35.trans le44), ⟨ar40_0_0, nr40_0_0, ar40_1_2, nr40_1_2, rfl, rfl, hbr40_0_0, hsr40_0_0, hbr40_1_2, hsr40_1_2⟩⟩⟩
 ·rintro b49 F3 w50 rfl hs51 le52
  have h53 := Bj h39
  refine Am ?_
  obtain rfl := Aa h53
  exact Cj hs51.dr0 (le35.trans le52)
def Em (N : Nat) (sR212 : Ab -> Option (Ah ⊕ (Ab × Expr))) (sR226 : Ab -> Option (Ah ⊕ (Ab × Expr))) (x0 : Ab) : Option (Ah ⊕ (Ab × Expr)) :=
 ((Au N x0 ([110, 111, 116] : SF)).bind fun r24 => (bif r24.2 then ((sR212 r24.1).bind fun r34 => sk r34 (fun b55 => some (.inl b55)) (fun r37 => some (.inr (r37.1, ({ Op := 3, Value := 0, Kids := [r37.2] } : Expr))))) else ((sR226 r24.1).bind fun r61 => sk r61 (fun b73 => some (.inl b73)) (fun r64 => some (.inr (r64.1, r64.2))))))
theorem Hd (N : Nat) (sR212 : Ab -> Option (Ah ⊕ (Ab × Expr))) (hsR212 : Kj sR212) (sR226 : Ab -> Option (Ah ⊕ (Ab × Expr))) (hsR226 : ME sR226) {wb w0 : World} {Fb F0 : Mem} {Lf : Own} (hG : B0 F0) (bp0 : Nat) (x0 : Ab) (a0_0 : SG) (n0_0 : Nat) (hb0_0 : LC x0.l_.length n0_0) (hs0_0 : SlA Af F0 a0_0 x0.l_) (hs0 : HS wb Fb w0 F0 ((sb bp0 (Ad x0 a0_0 n0_0) 100) :: Lf)) (r : (Ah ⊕ (Ab × Expr))) (h : Em N sR212 sR226 x0 = some r) :
  Calls Tryz.prog 212 ([(pt bp0 0)] : List Value).toArray w0 (BB wb Fb F0 Lf r (fun b => (.iface 158 (.agg (AL b)))) fun a F' v L' => ∃ (aq0_0 : SG) (nq0_0 : Nat) (aq1_2 : SG) (nq1_2 : Nat), v = (.agg (Ag a.2 aq1_2 nq1_2)) /\ L' = (sb bp0 (Ad a.1 aq0_0 nq0_0) 100) :: Lf /\ LC a.1.l_.length nq0_0 /\ SlA Af F' aq0_0 a.1.l_ /\ LC a.2.Kids.length nq1_2 /\ SlA Ao F' aq1_2 a.2.Kids) := by
 refine Go 11 Tryz.func212 ?_
 refine Sq (Rg [0] ?_)
 refine Al' 33 #[(vi 0), (vi 0), (.slice none ([] : List Expr).length 0)] hs0 (fun b21 w22 hs23 => ?_)
 refine Nss ?_
 refine Sq (Rg [0, 1] ?_)
 refine Vs 1 ?_
 obtain ⟨r24, hr25, h26⟩ := bind_some h
 refine CB AH (AK N bp0 x0 a0_0 n0_0 hb0_0 hs0_0 (([110, 111, 116] : SF)) hs23.pk1 _ hr25) ?_
 rintro _ F1 w27 _ hs28 le29 ⟨ar24_0_0, nr24_0_0, rfl, rfl, hbr24_0_0, hsr24_0_0⟩
 refine Nt ?_
 refine Cd h26 (fun hb31 h32 => ?_) (fun hb31 h33 => ?_)
 ·refine Sq (Rg [0, 1, 2, 3, 4] ?_)
  refine Vs 1 ?_
  obtain ⟨r34, hr35, h36⟩ := bind_some h32
  refine CP D6 (hsR212 (hG.mono le29) bp0 r24.1 ar24_0_0 nr24_0_0 hbr24_0_0 hsr24_0_0 hs28 _ hr35) ?_ ?_
  ·rintro r37 _ F2 w39 _ rfl hs40 le41 ⟨ar37_0_0, nr37_0_0, ar37_1_2, nr37_1_2, rfl, rfl, hbr37_0_0, hsr37_0_0, hbr37_1_2, hsr37_1_2⟩
   have h43 := BM h36
   refine Bs 33 [(vi r37.2.Op), (vi r37.2.Value), (.slice ar37_1_2 r37.2.Kids.length nr37_1_2)] hs40 (fun b44 w45 hs46 => ?_)
   have hr48 : Aw Ao 33 F2 (some ⟨b44, 0, none⟩) 1 [r37.2] (some b44, .cells ([(vi r37.2.Op), (vi r37.2.Value), (.slice ar37_1_2 r37.2.Kids.length nr37_1_2)] : List Value).toArray 33 (0, 0)) := SC ⟨(Bb ⟨ar37_1_2, nr37_1_2, rfl, hbr37_1_2, hsr37_1_2⟩), rfl⟩ (by simp)
   refine Vs 1 ?_
   refine St2 #[(vi 3), (vi 0), (.slice (some ⟨b44, 0, none⟩) [r37.2].length 1)] hs46 (fun w49 hs50 => ?_)
   refine Nt ?_
   refine Rt ?_
   refine Ae ?_
   have hb54 := SB hr48
   obtain ⟨F3, hs51, le52, hs53⟩ := hs50.fr0 hr48
   obtain rfl := Aa h43
   exact ⟨rfl, (.agg #[(vi 3), (vi 0), (.slice (some ⟨b44, 0, none⟩) [r37.2].length 1)]), AC (l := [.cell 2 33]) (by kernel_rfl) (vs := [(.agg #[(vi 3), (vi 0), (.slice (some ⟨b44, 0, none⟩) [r37.2].length 1)])]) ⟨b21, 0, rfl, Aj (t := 33) (g := true) (s := 3) (by kernel_rfl) hs51.at1 rfl (by decide), trivial⟩, .inl ⟨_, F3, _, _, rfl, rfl, hs51.dr1, ((le29.trans le41).trans le52), ⟨ar37_0_0, nr37_0_0, (some ⟨b44, 0, none⟩), 1, rfl, rfl, hbr37_0_0, (Sk hsr37_0_0 le52), hb54, hs53⟩⟩⟩
  ·rintro b55 F4 w56 rfl hs57 le58
   have h59 := Bj h36
   refine Am ?_
   refine Am ?_
   obtain rfl := Aa h59
   exact Cj hs57.dr0 (le29.trans le58)
 ·refine Sc ?_
  refine Ac ?_
  refine Sq (Rg [0, 1, 2] ?_)
  refine Vs 1 ?_
  obtain ⟨r61, hr62, h63⟩ := bind_some h33
  refine CP GQ (hsR226 (hG.mono le29) bp0 r24.1 ar24_0_0 nr24_0_0 hbr24_0_0 hsr24_0_0 hs28 _ hr62) ?_ ?_
  ·rintro r64 _ F5 w66 _ rfl hs67 le68 ⟨ar64_0_0, nr64_0_0, ar64_1_2, nr64_1_2, rfl, rfl, hbr64_0_0, hsr64_0_0, hbr64_1_2, hsr64_1_2⟩
   have h70 := BM h63
   refine St1 (Ag r64.2 ar64_1_2 nr64_1_2) hs67 (fun w71 hs72 => ?_)
   refine Nt ?_
   refine Rt ?_
   obtain rfl := Aa h70
   exact ⟨rfl, (.agg (Ag r64.2 ar64_1_2 nr64_1_2)), AC (l := [.cell 2 33]) (by kernel_rfl) (vs := [(.agg (Ag r64.2 ar64_1_2 nr64_1_2))]) ⟨b21, 0, rfl, Aj (t := 33) (g := true) (s := 3) (by kernel_rfl) hs72.at1 rfl (by decide), trivial⟩, .inl ⟨_, F5, _, _, rfl, rfl, hs72.dr1, (le29.trans le68), ⟨ar64_0_0, nr64_0_0, ar64_1_2, nr64_1_2, rfl, rfl, hbr64_0_0, hsr64_0_0, hbr64_1_2, hsr64_1_2⟩⟩⟩
  ·rintro b73 F6 w74 rfl hs75 le76
   have h77 := Bj h63
   refine Am ?_
   obtain rfl := Aa h77
   exact Cj hs75.dr0 (le29.trans le76)
theorem Lk {N : Nat} {p q : Ab} {t : SF} (h : Au N p t = some (q, false)) : q = p := by
 unfold Au at h
 cases hp : AY N p t with
 | none => rw [hp] at h; cases h
 | some b =>
  rw [hp] at h
  cases b with
  | false => simp at h; exact h.symm
  | true =>
   simp only [Option.bind_some, Bool.not_true, cond_false] at h
   cases hs : sub p.l_ 1 (p.l_.length : Int) with
   | none => rw [hs] at h; cases h
   | some l => rw [hs] at h; simp at h
theorem OT {N : Nat} {p : Ab} {t : SF} (h : AY N p t = some true) : ∃ x, idx p.l_ 0 = some x /\ x.text_ = t := by
 unfold AY at h
 cases hi : idx p.l_ 0 with
 | none => rw [hi] at h; cases h
 | some x =>
  rw [hi] at h
  refine ⟨x, rfl, ?_⟩
  simp only [Option.bind_some] at h
  cases h2 : (x.kind_ == 2) <;> cases h3 : (x.kind_ == 3) <;> rw [h2] at h <;> try rw [h3] at h
  all_goals simp at h
  all_goals exact h
theorem NY {N : Nat} {p : Ab} {s t : SF} (h : AY N p s = some true) (hne : s ≠ t) : AY N p t = some false := by
 obtain ⟨x, hx, hs⟩ := OT h
 unfold AY at h ⊢
 rw [hx] at h ⊢
 simp only [Option.bind_some] at h ⊢
 have hne' : (x.text_ == t) = false := by rw [hs]; simpa using hne
 rw [hne']
 cases h2 : (x.kind_ == 2) <;> cases h3 : (x.kind_ == 3) <;> simp
theorem Mz {N : Nat} {p q : Ab} {s t : SF} (h : Au N p s = some (q, true)) (hne : s ≠ t) : Au N p t = some (p, false) := by
 unfold Au at h ⊢
 cases hp : AY N p s with
 | none => rw [hp] at h; cases h
 | some b =>
  rw [hp] at h
  cases b with
  | false => simp at h
  | true => rw [NY hp hne]; rfl
theorem JW {N : Nat} {p : Ab} {α : Type} {X6 X7 Z : Ab × Bool -> Option α} {r : α}
  (h : ((Au N p ([61] : SF)).bind fun a => (bif a.2 then X6 a else ((Au N a.1 ([60] : SF)).bind fun b => (bif b.2 then X7 b else Z b)))) = some r) :
  ((Au N p ([60] : SF)).bind fun a => (bif a.2 then X7 a else ((Au N a.1 ([61] : SF)).bind fun b => (bif b.2 then X6 b else Z b)))) = some r := by
 cases ha : Au N p [61] with
 | none => rw [ha] at h; cases h
 | some a =>
  obtain ⟨q, b⟩ := a
  rw [ha] at h
  simp only [Option.bind_some] at h
  cases b with
  | true =>
   rw [Mz ha (by decide)]
   simp only [cond_true] at h
   simp only [Option.bind_some, cond_false, ha, cond_true]; exact h
  | false =>
   obtain rfl := Lk ha
   simp only [cond_false] at h
   cases hb : Au N q [60] with
   | none => rw [hb] at h; cases h
   | some b =>
    obtain ⟨q2, c⟩ := b
    rw [hb] at h
    simp only [Option.bind_some] at h ⊢
    cases c with
    | true => simpa using h
    | false =>
     obtain rfl := Lk hb
     simp only [cond_false, ha, Option.bind_some] at h ⊢
     exact h
def Ei (N : Nat) (sR233 : Ab -> Option (Ah ⊕ (Ab × Expr))) (x0 : Ab) : Option (Ah ⊕ (Ab × Expr)) :=
 ((sR233 x0).bind fun r24 => sk r24 (fun b291 => some (.inl b291)) (fun r27 => ((Au N r27.1 ([61] : SF)).bind fun r51 => (bif r51.2 then (((sR233 r51.1).bind fun r73 => sk r73 (fun b90 => some (.inl b90)) (fun r76 => some (.inr (6, [r27.2, r76.2], r76.1.l_, r76.1.open_)))).bind fun j67 => sk j67 (fun b101 => some (.inl b101)) (fun J72 => some (.inr (({ l_ := J72.2.2.1, open_ := J72.2.2.2 } : Ab), ({ Op := J72.1, Value := 0, Kids := J72.2.1 } : Expr))))) else ((Au N r51.1 ([60] : SF)).bind fun r109 => (bif r109.2 then (((sR233 r109.1).bind fun r131 => sk r131 (fun b148 => some (.inl b148)) (fun r134 => some (.inr (7, [r27.2, r134.2], r134.1.l_, r134.1.open_)))).bind fun j125 => sk j125 (fun b159 => some (.inl b159)) (fun J130 => some (.inr (({ l_ := J130.2.2.1, open_ := J130.2.2.2 } : Ab), ({ Op := J130.1, Value := 0, Kids := J130.2.1 } : Expr))))) else some (.inr (r109.1, r27.2))))))))
theorem G9 (N : Nat) (sR233 : Ab -> Option (Ah ⊕ (Ab × Expr))) (hsR233 : MD sR233) {wb w0 : World} {Fb F0 : Mem} {Lf : Own} (hG : B0 F0) (bp0 : Nat) (x0 : Ab) (a0_0 : SG) (n0_0 : Nat) (hb0_0 : LC x0.l_.length n0_0) (hs0_0 : SlA Af F0 a0_0 x0.l_) (hs0 : HS wb Fb w0 F0 ((sb bp0 (Ad x0 a0_0 n0_0) 100) :: Lf)) (r : (Ah ⊕ (Ab × Expr))) (h : Ei N sR233 x0 = some r) :
  Calls Tryz.prog 226 ([(pt bp0 0)] : List Value).toArray w0 (BB wb Fb F0 Lf r (fun b => (.iface 158 (.agg (AL b)))) fun a F' v L' => ∃ (aq0_0 : SG) (nq0_0 : Nat) (aq1_2 : SG) (nq1_2 : Nat), v = (.agg (Ag a.2 aq1_2 nq1_2)) /\ L' = (sb bp0 (Ad a.1 aq0_0 nq0_0) 100) :: Lf /\ LC a.1.l_.length nq0_0 /\ SlA Af F' aq0_0 a.1.l_ /\ LC a.2.Kids.length nq1_2 /\ SlA Ao F' aq1_2 a.2.Kids) := by
 refine Go 26 Tryz.func226 ?_
 refine Sq (Rg [0] ?_)
 refine Al' 33 #[(vi 0), (vi 0), (.slice none ([] : List Expr).length 0)] hs0 (fun b21 w22 hs23 => ?_)
 refine Nss (Rg [0, 1, 2, 3] ?_)
 refine Vs 1 ?_
 obtain ⟨r24, hr25, h26⟩ := bind_some h
 refine CP BK (hsR233 hG bp0 x0 a0_0 n0_0 hb0_0 hs0_0 hs23.pk1 _ hr25) ?_ ?_
 ·rintro r27 _ F1 w29 _ rfl hs30 le31 ⟨ar27_0_0, nr27_0_0, ar27_1_2, nr27_1_2, rfl, rfl, hbr27_0_0, hsr27_0_0, hbr27_1_2, hsr27_1_2⟩
  have h33 := BM h26
  refine Al' 33 #[(vi 0), (vi 0), (.slice none ([] : List Expr).length 0)] hs30 (fun b34 w35 hs36 => ?_)
  refine St0 (Ag r27.2 ar27_1_2 nr27_1_2) hs36 (fun w37 hs38 => ?_)
  refine Nss ?_
  refine Sq (Rg [0, 1, 2, 3, 4] ?_)
  refine RWP.litMap (dst := (some 8)) (ty := 198) (g := none) (by kernel_rfl) rfl (t := 198) hs38 (fun b39 w40 (hs41 : HS wb Fb w40 F1 ((some b39, (.map #[] 0)) :: (sb b34 (Ag r27.2 ar27_1_2 nr27_1_2) 33) :: (sb bp0 (Ad r27.1 ar27_0_0 nr27_0_0) 100) :: (sb b21 #[(vi 0), (vi 0), (.slice none ([] : List Expr).length 0)] 33) :: Lf)) => ?_)
  refine RWP.litIns (d := .string) (k := 9) (vt := 3) (ty := 0) (g := none) (mt := 198) (m := (.tmp 8)) (x := (.const (.string ⟨([61] : SF).toArray⟩))) (y := (.const (vi 6))) (b := b39) (q := 0) (kv := (.string ⟨(([61] : SF)).toArray⟩)) (v := (vi 6)) (by kernel_rfl) rfl rfl rfl rfl (by kernel_rfl) (by kernel_rfl) trivial (by kernel_rfl) hs41 rfl rfl (fun w42 (hs43 : HS wb Fb w42 F1 ((some b39, (.map #[⟨(.string ⟨(([61] : SF)).toArray⟩), (vi 6), 0⟩] 1)) :: (sb b34 (Ag r27.2 ar27_1_2 nr27_1_2) 33) :: (sb bp0 (Ad r27.1 ar27_0_0 nr27_0_0) 100) :: (sb b21 #[(vi 0), (vi 0), (.slice none ([] : List Expr).length 0)] 33) :: Lf)) => ?_)
  refine RWP.litIns (d := .string) (k := 9) (vt := 3) (ty := 0) (g := none) (mt := 198) (m := (.tmp 8)) (x := (.const (.string ⟨([60] : SF).toArray⟩))) (y := (.const (vi 7))) (b := b39) (q := 0) (kv := (.string ⟨(([60] : SF)).toArray⟩)) (v := (vi 7)) (by kernel_rfl) rfl rfl rfl rfl (by kernel_rfl) (by kernel_rfl) trivial (by kernel_rfl) hs43 rfl rfl (fun w44 (hs45 : HS wb Fb w44 F1 ((some b39, (.map #[⟨(.string ⟨(([61] : SF)).toArray⟩), (vi 6), 0⟩, ⟨(.string ⟨(([60] : SF)).toArray⟩), (vi 7), 1⟩] 2)) :: (sb b34 (Ag r27.2 ar27_1_2 nr27_1_2) 33) :: (sb bp0 (Ad r27.1 ar27_0_0 nr27_0_0) 100) :: (sb b21 #[(vi 0), (vi 0), (.slice none ([] : List Expr).length 0)] 33) :: Lf)) => ?_)
  refine Vs 1 ?_
  refine RWP.litRange (k := 9) (vt := 3) (dst := (some 10)) (ty := 0) (g := none) (by kernel_rfl) rfl (mt := 198) (x := (.tmp 9)) (b := b39) (q := 0) rfl (by kernel_rfl) hs45 rfl (fun b46 w47 (hs48 : HS wb Fb w47 F1 ((some b46, (.mapIter (some b39) 2 #[] 2)) :: (some b39, (.map #[⟨(.string ⟨(([61] : SF)).toArray⟩), (vi 6), 0⟩, ⟨(.string ⟨(([60] : SF)).toArray⟩), (vi 7), 1⟩] 2)) :: (sb b34 (Ag r27.2 ar27_1_2 nr27_1_2) 33) :: (sb bp0 (Ad r27.1 ar27_0_0 nr27_0_0) 100) :: (sb b21 #[(vi 0), (vi 0), (.slice none ([] : List Expr).length 0)] 33) :: Lf)) => ?_)
  refine Nt ?_
  refine Bk ?_
  refine CWP.unroll (by kernel_rfl) 4 ?_
  refine URL.step ?_
  refine Sq (Rg [0, 1] ?_)
  refine RWP.litNext2  (e := ⟨(.string ⟨(([61] : SF)).toArray⟩), (vi 6), 0⟩) (e2 := ⟨(.string ⟨(([60] : SF)).toArray⟩), (vi 7), 1⟩) (dst := (some 11)) (ty := 0) (g := none) (by kernel_rfl) rfl (x := (.tmp 10)) (r := b46) (ki := 0) (km := 1) rfl hs48 rfl rfl (by kernel_rfl) (by kernel_rfl) ?_ ?_
  ·rintro w49 (hs50 : HS wb Fb w49 F1 ((some b46, (.mapIter (some b39) 2 #[0] 2)) :: (some b39, (.map #[⟨(.string ⟨(([61] : SF)).toArray⟩), (vi 6), 0⟩, ⟨(.string ⟨(([60] : SF)).toArray⟩), (vi 7), 1⟩] 2)) :: (sb b34 (Ag r27.2 ar27_1_2 nr27_1_2) 33) :: (sb bp0 (Ad r27.1 ar27_0_0 nr27_0_0) 100) :: (sb b21 #[(vi 0), (vi 0), (.slice none ([] : List Expr).length 0)] 33) :: Lf))
   refine Vs 1 ?_
   refine Nss ?_
   refine C1 (rfl : true = true) ?_
   refine Sc ?_
   refine Ac ?_
   refine Bk ?_
   refine Sq (Rg [0, 1, 2, 3, 4] ?_)
   refine V 13 0 (Eu (x := (.tmp 10)) (en := ⟨(.string ⟨(([61] : SF)).toArray⟩), (vi 6), 0⟩) rfl (hs50.ownAt (k := 0) rfl) (hs50.ownAt (k := 1) rfl) rfl rfl) ?_
   refine Vs 4 ?_
   refine Nss (Rg [0, 1, 2] ?_)
   refine Vs 2 ?_
   obtain ⟨r51, hr52, h53⟩ := bind_some h33
   refine CB AH (AK N bp0 r27.1 ar27_0_0 nr27_0_0 hbr27_0_0 hsr27_0_0 (([61] : SF)) hs50.pk4.pk3.pk3.pk3.pk4 _ hr52) ?_
   rintro _ F2 w54 _ hs55 le56 ⟨ar51_0_0, nr51_0_0, rfl, rfl, hbr51_0_0, hsr51_0_0⟩
   refine Nt ?_
   refine Cd h53 (fun hb58 h59 => ?_) (fun hb58 h60 => ?_)
   ·refine Sq ?_
    obtain ⟨j67, hj70, h71⟩ := bind_some h59
    refine RDP 6 7 [(some b46, (.mapIter (some b39) 2 #[0] 2)), (some b39, (.map #[⟨(.string ⟨(([61] : SF)).toArray⟩), (vi 6), 0⟩, ⟨(.string ⟨(([60] : SF)).toArray⟩), (vi 7), 1⟩] 2)), (sb b34 (Ag r27.2 ar27_1_2 nr27_1_2) 33)] [(sb b21 #[(vi 0), (vi 0), (.slice none ([] : List Expr).length 0)] 33)] hs55 (fun c d w => d = [] /\ ∃ (b : Ah) (Fp : Mem), j67 = .inl b /\ c = [{ v := (.iface 158 (.agg (AL b))), recovered := false }] /\ HS wb Fb w Fp Lf /\ Sh F2 Fp) (fun f w => ∃ (J72 : (Int × List Expr × List Ar × Int)), j67 = .inr J72 /\ ∃ (F3 : Mem) (aj67_1 : SG) (nj67_1 : Nat) (ej67_1 : Option Nat × Obj) (aj67_2 : SG) (nj67_2 : Nat), HS wb Fb w F3 (ej67_1 :: (sb bp0 #[(.slice aj67_2 J72.2.2.1.length nj67_2), (vi J72.2.2.2)] 100) :: (sb b21 #[(vi J72.1), (vi 0), (.slice aj67_1 J72.2.1.length nj67_1)] 33) :: Lf) /\ Sh F2 F3 /\ FI f [] [(2, (pt b21 0))] /\ Aw Ao 33 F3 aj67_1 nj67_1 J72.2.1 ej67_1 /\ LC J72.2.2.1.length nj67_2 /\ SlA Af F3 aj67_2 J72.2.2.1) (fun wd61 hw62 => ?_) ?_ ?_
    ·refine Dv [0] ?_
     refine Dl 1 (fun _ hq => (hq.1.2 2 _ _ rfl)) ?_
     refine Dv [2] ?_
     refine D1 3 ?_
     obtain ⟨r73, hr74, h75⟩ := bind_some hj70
     refine DCP BK (hsR233 (hG.mono (le31.trans le56)) bp0 r51.1 ar51_0_0 nr51_0_0 hbr51_0_0 hsr51_0_0 hw62 _ hr74) ?_ ?_
     ·rintro r76 _ F4 w78 _ rfl hs79 le80 ⟨ar76_0_0, nr76_0_0, ar76_1_2, nr76_1_2, rfl, rfl, hbr76_0_0, hsr76_0_0, hbr76_1_2, hsr76_1_2⟩
      have h82 := BM h75
      refine ⟨Bu hs79 le80 (by simp) (fun _ => by simp), ?_⟩
      refine D1 4 ?_
      refine DBs 33 [(vi r27.2.Op), (vi r27.2.Value), (.slice ar27_1_2 r27.2.Kids.length nr27_1_2), (vi r76.2.Op), (vi r76.2.Value), (.slice ar76_1_2 r76.2.Kids.length nr76_1_2)] hs79 le80 (fun b83 w84 hs85 => ?_)
      have hr87 : Aw Ao 33 F4 (some ⟨b83, 0, none⟩) 2 [r27.2, r76.2] (some b83, .cells ([(vi r27.2.Op), (vi r27.2.Value), (.slice ar27_1_2 r27.2.Kids.length nr27_1_2), (vi r76.2.Op), (vi r76.2.Value), (.slice ar76_1_2 r76.2.Kids.length nr76_1_2)] : List Value).toArray 33 (0, 0)) := SC ⟨(Bb ⟨ar27_1_2, nr27_1_2, rfl, hbr27_1_2, (Sk hsr27_1_2 (le56.trans le80))⟩), ⟨(Bb ⟨ar76_1_2, nr76_1_2, rfl, hbr76_1_2, hsr76_1_2⟩), rfl⟩⟩ (by simp)
      refine Dv [5] ?_
      refine D1 6 ?_
      refine QI #[(vi 6), (vi 0), (.slice (some ⟨b83, 0, none⟩) [r27.2, r76.2].length 2)] hs85 le80 (fun w88 hs89 => ?_)
      obtain rfl := Aa h82
      exact SA (by kernel_rfl) ⟨_, rfl, F4, (some ⟨b83, 0, none⟩), 2, (some b83, .cells ([(vi r27.2.Op), (vi r27.2.Value), (.slice ar27_1_2 r27.2.Kids.length nr27_1_2), (vi r76.2.Op), (vi r76.2.Value), (.slice ar76_1_2 r76.2.Kids.length nr76_1_2)] : List Value).toArray 33 (0, 0)), ar76_0_0, nr76_0_0, hs89.dr2.dr2.dr2, le80, fI, hr87, hbr76_0_0, hsr76_0_0⟩
     ·rintro b90 F5 w91 rfl hs92 le93
      have h94 := Bj h75
      obtain rfl := Aa h94
      exact ⟨rfl, _, _, rfl, rfl, hs92.dr0.dr0.dr0.dr0, le93⟩
    ·rintro f w63 ⟨J72, rfl, F3, aj67_1, nj67_1, ej67_1, aj67_2, nj67_2, hs64, le65, ⟨_, rfl⟩, hrj67_1, hbj67_2, hsj67_2⟩
     have h96 := BM h71
     refine Ac ?_
     refine Rt ?_
     refine Ai ?_
     refine Ae ?_
     refine Ai ?_
     refine Ae ?_
     have hb100 := SB hrj67_1
     obtain ⟨F6, hs97, le98, hs99⟩ := hs64.fr0 hrj67_1
     obtain rfl := Aa h96
     exact ⟨rfl, (.agg #[(vi J72.1), (vi 0), (.slice aj67_1 J72.2.1.length nj67_1)]), AC (l := [.cell 2 33]) (by kernel_rfl) (vs := [(.agg #[(vi J72.1), (vi 0), (.slice aj67_1 J72.2.1.length nj67_1)])]) ⟨b21, 0, rfl, Aj (t := 33) (g := true) (s := 3) (by kernel_rfl) hs97.at1 rfl (by decide), trivial⟩, .inl ⟨_, F6, _, _, rfl, rfl, hs97.dr1, (((le31.trans le56).trans le65).trans le98), ⟨aj67_2, nj67_2, aj67_1, nj67_1, rfl, rfl, hbj67_2, (Sk hsj67_2 le98), hb100, hs99⟩⟩⟩
    ·rintro c f w102 ⟨hd105, b101, F7, rfl, rfl, hs103, le104⟩
     have h106 := Bj h71
     refine Am ?_
     refine AR ?_
     refine Am ?_
     refine AR ?_
     refine Am ?_
     obtain rfl := Aa h106
     exact ⟨hd105, .inr ⟨_, F7, rfl, rfl, hs103, ((le31.trans le56).trans le104)⟩⟩
   ·refine Sc ?_
    refine Aq ?_
    refine Ac ?_
    refine URL.step ?_
    refine Sq (Rg [0, 1] ?_)
    refine RWP.litNext1  (e := ⟨(.string ⟨(([60] : SF)).toArray⟩), (vi 7), 1⟩) (dst := (some 11)) (ty := 0) (g := none) (by kernel_rfl) rfl (x := (.tmp 10)) (r := b46) (ki := 1) (km := 2) rfl hs55 rfl rfl (by kernel_rfl) (by kernel_rfl) ?_
    ·rintro w107 (hs108 : HS wb Fb w107 F2 ((sb bp0 (Ad r51.1 ar51_0_0 nr51_0_0) 100) :: (some b46, (.mapIter (some b39) 2 #[0, 1] 2)) :: (some b39, (.map #[⟨(.string ⟨(([61] : SF)).toArray⟩), (vi 6), 0⟩, ⟨(.string ⟨(([60] : SF)).toArray⟩), (vi 7), 1⟩] 2)) :: (sb b34 (Ag r27.2 ar27_1_2 nr27_1_2) 33) :: (sb b21 #[(vi 0), (vi 0), (.slice none ([] : List Expr).length 0)] 33) :: Lf))
     refine Vs 1 ?_
     refine Nss ?_
     refine C1 (rfl : true = true) ?_
     refine Sc ?_
     refine Ac ?_
     refine Bk ?_
     refine Sq (Rg [0, 1, 2, 3, 4] ?_)
     refine V 13 0 (Eu (x := (.tmp 10)) (en := ⟨(.string ⟨(([60] : SF)).toArray⟩), (vi 7), 1⟩) rfl (hs108.ownAt (k := 1) rfl) (hs108.ownAt (k := 2) rfl) rfl rfl) ?_
     refine Vs 4 ?_
     refine Nss (Rg [0, 1, 2] ?_)
     refine Vs 2 ?_
     obtain ⟨r109, hr110, h111⟩ := bind_some h60
     refine CB AH (AK N bp0 r51.1 ar51_0_0 nr51_0_0 hbr51_0_0 hsr51_0_0 (([60] : SF)) hs108 _ hr110) ?_
     rintro _ F8 w112 _ hs113 le114 ⟨ar109_0_0, nr109_0_0, rfl, rfl, hbr109_0_0, hsr109_0_0⟩
     refine Nt ?_
     refine Cd h111 (fun hb116 h117 => ?_) (fun hb116 h118 => ?_)
     ·refine Sq ?_
      obtain ⟨j125, hj128, h129⟩ := bind_some h117
      refine RDP 6 7 [(some b46, (.mapIter (some b39) 2 #[0, 1] 2)), (some b39, (.map #[⟨(.string ⟨(([61] : SF)).toArray⟩), (vi 6), 0⟩, ⟨(.string ⟨(([60] : SF)).toArray⟩), (vi 7), 1⟩] 2)), (sb b34 (Ag r27.2 ar27_1_2 nr27_1_2) 33)] [(sb b21 #[(vi 0), (vi 0), (.slice none ([] : List Expr).length 0)] 33)] hs113 (fun c d w => d = [] /\ ∃ (b : Ah) (Fp : Mem), j125 = .inl b /\ c = [{ v := (.iface 158 (.agg (AL b))), recovered := false }] /\ HS wb Fb w Fp Lf /\ Sh F8 Fp) (fun f w => ∃ (J130 : (Int × List Expr × List Ar × Int)), j125 = .inr J130 /\ ∃ (F9 : Mem) (aj125_1 : SG) (nj125_1 : Nat) (ej125_1 : Option Nat × Obj) (aj125_2 : SG) (nj125_2 : Nat), HS wb Fb w F9 (ej125_1 :: (sb bp0 #[(.slice aj125_2 J130.2.2.1.length nj125_2), (vi J130.2.2.2)] 100) :: (sb b21 #[(vi J130.1), (vi 0), (.slice aj125_1 J130.2.1.length nj125_1)] 33) :: Lf) /\ Sh F8 F9 /\ FI f [] [(2, (pt b21 0))] /\ Aw Ao 33 F9 aj125_1 nj125_1 J130.2.1 ej125_1 /\ LC J130.2.2.1.length nj125_2 /\ SlA Af F9 aj125_2 J130.2.2.1) (fun wd119 hw120 => ?_) ?_ ?_
      ·refine Dv [0] ?_
       refine Dl 1 (fun _ hq => (hq.1.2 2 _ _ rfl)) ?_
       refine Dv [2] ?_
       refine D1 3 ?_
       obtain ⟨r131, hr132, h133⟩ := bind_some hj128
       refine DCP BK (hsR233 (hG.mono ((le31.trans le56).trans le114)) bp0 r109.1 ar109_0_0 nr109_0_0 hbr109_0_0 hsr109_0_0 hw120 _ hr132) ?_ ?_
       ·rintro r134 _ F10 w136 _ rfl hs137 le138 ⟨ar134_0_0, nr134_0_0, ar134_1_2, nr134_1_2, rfl, rfl, hbr134_0_0, hsr134_0_0, hbr134_1_2, hsr134_1_2⟩
        have h140 := BM h133
        refine ⟨Bu hs137 le138 (by simp) (fun _ => by simp), ?_⟩
        refine D1 4 ?_
        refine DBs 33 [(vi r27.2.Op), (vi r27.2.Value), (.slice ar27_1_2 r27.2.Kids.length nr27_1_2), (vi r134.2.Op), (vi r134.2.Value), (.slice ar134_1_2 r134.2.Kids.length nr134_1_2)] hs137 le138 (fun b141 w142 hs143 => ?_)
        have hr145 : Aw Ao 33 F10 (some ⟨b141, 0, none⟩) 2 [r27.2, r134.2] (some b141, .cells ([(vi r27.2.Op), (vi r27.2.Value), (.slice ar27_1_2 r27.2.Kids.length nr27_1_2), (vi r134.2.Op), (vi r134.2.Value), (.slice ar134_1_2 r134.2.Kids.length nr134_1_2)] : List Value).toArray 33 (0, 0)) := SC ⟨(Bb ⟨ar27_1_2, nr27_1_2, rfl, hbr27_1_2, (Sk hsr27_1_2 ((le56.trans le114).trans le138))⟩), ⟨(Bb ⟨ar134_1_2, nr134_1_2, rfl, hbr134_1_2, hsr134_1_2⟩), rfl⟩⟩ (by simp)
        refine Dv [5] ?_
        refine D1 6 ?_
        refine QI #[(vi 7), (vi 0), (.slice (some ⟨b141, 0, none⟩) [r27.2, r134.2].length 2)] hs143 le138 (fun w146 hs147 => ?_)
        obtain rfl := Aa h140
        exact SA (by kernel_rfl) ⟨_, rfl, F10, (some ⟨b141, 0, none⟩), 2, (some b141, .cells ([(vi r27.2.Op), (vi r27.2.Value), (.slice ar27_1_2 r27.2.Kids.length nr27_1_2), (vi r134.2.Op), (vi r134.2.Value), (.slice ar134_1_2 r134.2.Kids.length nr134_1_2)] : List Value).toArray 33 (0, 0)), ar134_0_0, nr134_0_0, hs147.dr2.dr2.dr2, le138, fI, hr145, hbr134_0_0, hsr134_0_0⟩
       ·rintro b148 F11 w149 rfl hs150 le151
        have h152 := Bj h133
        obtain rfl := Aa h152
        exact ⟨rfl, _, _, rfl, rfl, hs150.dr0.dr0.dr0.dr0, le151⟩
      ·rintro f w121 ⟨J130, rfl, F9, aj125_1, nj125_1, ej125_1, aj125_2, nj125_2, hs122, le123, ⟨_, rfl⟩, hrj125_1, hbj125_2, hsj125_2⟩
       have h154 := BM h129
       refine Ac ?_
       refine Rt ?_
       refine Ai ?_
       refine Ae ?_
       refine Ai ?_
       refine Ae ?_
       have hb158 := SB hrj125_1
       obtain ⟨F12, hs155, le156, hs157⟩ := hs122.fr0 hrj125_1
       obtain rfl := Aa h154
       exact ⟨rfl, (.agg #[(vi J130.1), (vi 0), (.slice aj125_1 J130.2.1.length nj125_1)]), AC (l := [.cell 2 33]) (by kernel_rfl) (vs := [(.agg #[(vi J130.1), (vi 0), (.slice aj125_1 J130.2.1.length nj125_1)])]) ⟨b21, 0, rfl, Aj (t := 33) (g := true) (s := 3) (by kernel_rfl) hs155.at1 rfl (by decide), trivial⟩, .inl ⟨_, F12, _, _, rfl, rfl, hs155.dr1, ((((le31.trans le56).trans le114).trans le123).trans le156), ⟨aj125_2, nj125_2, aj125_1, nj125_1, rfl, rfl, hbj125_2, (Sk hsj125_2 le156), hb158, hs157⟩⟩⟩
      ·rintro c f w160 ⟨hd163, b159, F13, rfl, rfl, hs161, le162⟩
       have h164 := Bj h129
       refine Am ?_
       refine AR ?_
       refine Am ?_
       refine AR ?_
       refine Am ?_
       obtain rfl := Aa h164
       exact ⟨hd163, .inr ⟨_, F13, rfl, rfl, hs161, (((le31.trans le56).trans le114).trans le162)⟩⟩
     ·refine Sc ?_
      refine Aq ?_
      refine Ac ?_
      refine URL.step ?_
      refine Sq (Rg [0, 1] ?_)
      refine RWP.litNext0  (dst := (some 11)) (ty := 0) (g := none) (by kernel_rfl) rfl (x := (.tmp 10)) (r := b46) (ki := 1) (km := 2) rfl hs113 rfl rfl (by kernel_rfl) (by kernel_rfl) ?_
      ·rintro w165 (hs166 : HS wb Fb w165 F8 ((sb bp0 (Ad r109.1 ar109_0_0 nr109_0_0) 100) :: (some b46, (.mapIter (some b39) 2 #[0, 1] 2)) :: (some b39, (.map #[⟨(.string ⟨(([61] : SF)).toArray⟩), (vi 6), 0⟩, ⟨(.string ⟨(([60] : SF)).toArray⟩), (vi 7), 1⟩] 2)) :: (sb b34 (Ag r27.2 ar27_1_2 nr27_1_2) 33) :: (sb b21 #[(vi 0), (vi 0), (.slice none ([] : List Expr).length 0)] 33) :: Lf))
       refine Vs 1 ?_
       refine Nss ?_
       refine C0 (rfl : false = false) ?_
       refine Ex ?_
       refine Av ?_
       refine Av ?_
       refine AE rfl ?_
       refine Ac ?_
       refine Sq (Rg [0, 1] ?_)
       refine Ld hs166.at3 ?_
       refine St4 (Ag r27.2 ar27_1_2 nr27_1_2) hs166 (fun w167 hs168 => ?_)
       refine Nt ?_
       refine Rt ?_
       obtain rfl := Aa h118
       exact ⟨rfl, (.agg (Ag r27.2 ar27_1_2 nr27_1_2)), AC (l := [.cell 2 33]) (by kernel_rfl) (vs := [(.agg (Ag r27.2 ar27_1_2 nr27_1_2))]) ⟨b21, 0, rfl, Aj (t := 33) (g := true) (s := 3) (by kernel_rfl) hs168.at4 rfl (by decide), trivial⟩, .inl ⟨_, F8, _, _, rfl, rfl, hs168.dr1.dr1.dr1.dr1, ((le31.trans le56).trans le114), ⟨ar109_0_0, nr109_0_0, ar27_1_2, nr27_1_2, rfl, rfl, hbr109_0_0, hsr109_0_0, hbr27_1_2, (Sk hsr27_1_2 (le56.trans le114))⟩⟩⟩
  ·rintro w169 (hs170 : HS wb Fb w169 F1 ((some b46, (.mapIter (some b39) 2 #[1] 2)) :: (some b39, (.map #[⟨(.string ⟨(([61] : SF)).toArray⟩), (vi 6), 0⟩, ⟨(.string ⟨(([60] : SF)).toArray⟩), (vi 7), 1⟩] 2)) :: (sb b34 (Ag r27.2 ar27_1_2 nr27_1_2) 33) :: (sb bp0 (Ad r27.1 ar27_0_0 nr27_0_0) 100) :: (sb b21 #[(vi 0), (vi 0), (.slice none ([] : List Expr).length 0)] 33) :: Lf))
   have h171 := JW h33
   refine Vs 1 ?_
   refine Nss ?_
   refine C1 (rfl : true = true) ?_
   refine Sc ?_
   refine Ac ?_
   refine Bk ?_
   refine Sq (Rg [0, 1, 2, 3, 4] ?_)
   refine V 13 0 (Eu (x := (.tmp 10)) (en := ⟨(.string ⟨(([60] : SF)).toArray⟩), (vi 7), 1⟩) rfl (hs170.ownAt (k := 0) rfl) (hs170.ownAt (k := 1) rfl) rfl rfl) ?_
   refine Vs 4 ?_
   refine Nss (Rg [0, 1, 2] ?_)
   refine Vs 2 ?_
   have hs172 := hs170.pk4.pk3.pk3.pk3.pk4
   obtain ⟨r173, hr174, h175⟩ := bind_some h171
   refine CB AH (AK N bp0 r27.1 ar27_0_0 nr27_0_0 hbr27_0_0 hsr27_0_0 (([60] : SF)) hs172 _ hr174) ?_
   rintro _ F14 w176 _ hs177 le178 ⟨ar173_0_0, nr173_0_0, rfl, rfl, hbr173_0_0, hsr173_0_0⟩
   refine Nt ?_
   refine Cd h175 (fun hb180 h181 => ?_) (fun hb180 h182 => ?_)
   ·refine Sq ?_
    obtain ⟨j189, hj192, h193⟩ := bind_some h181
    refine RDP 6 7 [(some b46, (.mapIter (some b39) 2 #[1] 2)), (some b39, (.map #[⟨(.string ⟨(([61] : SF)).toArray⟩), (vi 6), 0⟩, ⟨(.string ⟨(([60] : SF)).toArray⟩), (vi 7), 1⟩] 2)), (sb b34 (Ag r27.2 ar27_1_2 nr27_1_2) 33)] [(sb b21 #[(vi 0), (vi 0), (.slice none ([] : List Expr).length 0)] 33)] hs177 (fun c d w => d = [] /\ ∃ (b : Ah) (Fp : Mem), j189 = .inl b /\ c = [{ v := (.iface 158 (.agg (AL b))), recovered := false }] /\ HS wb Fb w Fp Lf /\ Sh F14 Fp) (fun f w => ∃ (J194 : (Int × List Expr × List Ar × Int)), j189 = .inr J194 /\ ∃ (F15 : Mem) (aj189_1 : SG) (nj189_1 : Nat) (ej189_1 : Option Nat × Obj) (aj189_2 : SG) (nj189_2 : Nat), HS wb Fb w F15 (ej189_1 :: (sb bp0 #[(.slice aj189_2 J194.2.2.1.length nj189_2), (vi J194.2.2.2)] 100) :: (sb b21 #[(vi J194.1), (vi 0), (.slice aj189_1 J194.2.1.length nj189_1)] 33) :: Lf) /\ Sh F14 F15 /\ FI f [] [(2, (pt b21 0))] /\ Aw Ao 33 F15 aj189_1 nj189_1 J194.2.1 ej189_1 /\ LC J194.2.2.1.length nj189_2 /\ SlA Af F15 aj189_2 J194.2.2.1) (fun wd183 hw184 => ?_) ?_ ?_
    ·refine Dv [0] ?_
     refine Dl 1 (fun _ hq => (hq.1.2 2 _ _ rfl)) ?_
     refine Dv [2] ?_
     refine D1 3 ?_
     obtain ⟨r195, hr196, h197⟩ := bind_some hj192
     refine DCP BK (hsR233 (hG.mono (le31.trans le178)) bp0 r173.1 ar173_0_0 nr173_0_0 hbr173_0_0 hsr173_0_0 hw184 _ hr196) ?_ ?_
     ·rintro r198 _ F16 w200 _ rfl hs201 le202 ⟨ar198_0_0, nr198_0_0, ar198_1_2, nr198_1_2, rfl, rfl, hbr198_0_0, hsr198_0_0, hbr198_1_2, hsr198_1_2⟩
      have h204 := BM h197
      refine ⟨Bu hs201 le202 (by simp) (fun _ => by simp), ?_⟩
      refine D1 4 ?_
      refine DBs 33 [(vi r27.2.Op), (vi r27.2.Value), (.slice ar27_1_2 r27.2.Kids.length nr27_1_2), (vi r198.2.Op), (vi r198.2.Value), (.slice ar198_1_2 r198.2.Kids.length nr198_1_2)] hs201 le202 (fun b205 w206 hs207 => ?_)
      have hr209 : Aw Ao 33 F16 (some ⟨b205, 0, none⟩) 2 [r27.2, r198.2] (some b205, .cells ([(vi r27.2.Op), (vi r27.2.Value), (.slice ar27_1_2 r27.2.Kids.length nr27_1_2), (vi r198.2.Op), (vi r198.2.Value), (.slice ar198_1_2 r198.2.Kids.length nr198_1_2)] : List Value).toArray 33 (0, 0)) := SC ⟨(Bb ⟨ar27_1_2, nr27_1_2, rfl, hbr27_1_2, (Sk hsr27_1_2 (le178.trans le202))⟩), ⟨(Bb ⟨ar198_1_2, nr198_1_2, rfl, hbr198_1_2, hsr198_1_2⟩), rfl⟩⟩ (by simp)
      refine Dv [5] ?_
      refine D1 6 ?_
      refine QI #[(vi 7), (vi 0), (.slice (some ⟨b205, 0, none⟩) [r27.2, r198.2].length 2)] hs207 le202 (fun w210 hs211 => ?_)
      obtain rfl := Aa h204
      exact SA (by kernel_rfl) ⟨_, rfl, F16, (some ⟨b205, 0, none⟩), 2, (some b205, .cells ([(vi r27.2.Op), (vi r27.2.Value), (.slice ar27_1_2 r27.2.Kids.length nr27_1_2), (vi r198.2.Op), (vi r198.2.Value), (.slice ar198_1_2 r198.2.Kids.length nr198_1_2)] : List Value).toArray 33 (0, 0)), ar198_0_0, nr198_0_0, hs211.dr2.dr2.dr2, le202, fI, hr209, hbr198_0_0, hsr198_0_0⟩
     ·rintro b212 F17 w213 rfl hs214 le215
      have h216 := Bj h197
      obtain rfl := Aa h216
      exact ⟨rfl, _, _, rfl, rfl, hs214.dr0.dr0.dr0.dr0, le215⟩
    ·rintro f w185 ⟨J194, rfl, F15, aj189_1, nj189_1, ej189_1, aj189_2, nj189_2, hs186, le187, ⟨_, rfl⟩, hrj189_1, hbj189_2, hsj189_2⟩
     have h218 := BM h193
     refine Ac ?_
     refine Rt ?_
     refine Ai ?_
     refine Ae ?_
     refine Ai ?_
     refine Ae ?_
     have hb222 := SB hrj189_1
     obtain ⟨F18, hs219, le220, hs221⟩ := hs186.fr0 hrj189_1
     obtain rfl := Aa h218
     exact ⟨rfl, (.agg #[(vi J194.1), (vi 0), (.slice aj189_1 J194.2.1.length nj189_1)]), AC (l := [.cell 2 33]) (by kernel_rfl) (vs := [(.agg #[(vi J194.1), (vi 0), (.slice aj189_1 J194.2.1.length nj189_1)])]) ⟨b21, 0, rfl, Aj (t := 33) (g := true) (s := 3) (by kernel_rfl) hs219.at1 rfl (by decide), trivial⟩, .inl ⟨_, F18, _, _, rfl, rfl, hs219.dr1, (((le31.trans le178).trans le187).trans le220), ⟨aj189_2, nj189_2, aj189_1, nj189_1, rfl, rfl, hbj189_2, (Sk hsj189_2 le220), hb222, hs221⟩⟩⟩
    ·rintro c f w224 ⟨hd227, b223, F19, rfl, rfl, hs225, le226⟩
     have h228 := Bj h193
     refine Am ?_
     refine AR ?_
     refine Am ?_
     refine AR ?_
     refine Am ?_
     obtain rfl := Aa h228
     exact ⟨hd227, .inr ⟨_, F19, rfl, rfl, hs225, ((le31.trans le178).trans le226)⟩⟩
   ·refine Sc ?_
    refine Aq ?_
    refine Ac ?_
    refine URL.step ?_
    refine Sq (Rg [0, 1] ?_)
    refine RWP.litNext1  (e := ⟨(.string ⟨(([61] : SF)).toArray⟩), (vi 6), 0⟩) (dst := (some 11)) (ty := 0) (g := none) (by kernel_rfl) rfl (x := (.tmp 10)) (r := b46) (ki := 1) (km := 2) rfl hs177 rfl rfl (by kernel_rfl) (by kernel_rfl) ?_
    ·rintro w229 (hs230 : HS wb Fb w229 F14 ((sb bp0 (Ad r173.1 ar173_0_0 nr173_0_0) 100) :: (some b46, (.mapIter (some b39) 2 #[1, 0] 2)) :: (some b39, (.map #[⟨(.string ⟨(([61] : SF)).toArray⟩), (vi 6), 0⟩, ⟨(.string ⟨(([60] : SF)).toArray⟩), (vi 7), 1⟩] 2)) :: (sb b34 (Ag r27.2 ar27_1_2 nr27_1_2) 33) :: (sb b21 #[(vi 0), (vi 0), (.slice none ([] : List Expr).length 0)] 33) :: Lf))
     refine Vs 1 ?_
     refine Nss ?_
     refine C1 (rfl : true = true) ?_
     refine Sc ?_
     refine Ac ?_
     refine Bk ?_
     refine Sq (Rg [0, 1, 2, 3, 4] ?_)
     refine V 13 0 (Eu (x := (.tmp 10)) (en := ⟨(.string ⟨(([61] : SF)).toArray⟩), (vi 6), 0⟩) rfl (hs230.ownAt (k := 1) rfl) (hs230.ownAt (k := 2) rfl) rfl rfl) ?_
     refine Vs 4 ?_
     refine Nss (Rg [0, 1, 2] ?_)
     refine Vs 2 ?_
     obtain ⟨r231, hr232, h233⟩ := bind_some h182
     refine CB AH (AK N bp0 r173.1 ar173_0_0 nr173_0_0 hbr173_0_0 hsr173_0_0 (([61] : SF)) hs230 _ hr232) ?_
     rintro _ F20 w234 _ hs235 le236 ⟨ar231_0_0, nr231_0_0, rfl, rfl, hbr231_0_0, hsr231_0_0⟩
     refine Nt ?_
     refine Cd h233 (fun hb238 h239 => ?_) (fun hb238 h240 => ?_)
     ·refine Sq ?_
      obtain ⟨j247, hj250, h251⟩ := bind_some h239
      refine RDP 6 7 [(some b46, (.mapIter (some b39) 2 #[1, 0] 2)), (some b39, (.map #[⟨(.string ⟨(([61] : SF)).toArray⟩), (vi 6), 0⟩, ⟨(.string ⟨(([60] : SF)).toArray⟩), (vi 7), 1⟩] 2)), (sb b34 (Ag r27.2 ar27_1_2 nr27_1_2) 33)] [(sb b21 #[(vi 0), (vi 0), (.slice none ([] : List Expr).length 0)] 33)] hs235 (fun c d w => d = [] /\ ∃ (b : Ah) (Fp : Mem), j247 = .inl b /\ c = [{ v := (.iface 158 (.agg (AL b))), recovered := false }] /\ HS wb Fb w Fp Lf /\ Sh F20 Fp) (fun f w => ∃ (J252 : (Int × List Expr × List Ar × Int)), j247 = .inr J252 /\ ∃ (F21 : Mem) (aj247_1 : SG) (nj247_1 : Nat) (ej247_1 : Option Nat × Obj) (aj247_2 : SG) (nj247_2 : Nat), HS wb Fb w F21 (ej247_1 :: (sb bp0 #[(.slice aj247_2 J252.2.2.1.length nj247_2), (vi J252.2.2.2)] 100) :: (sb b21 #[(vi J252.1), (vi 0), (.slice aj247_1 J252.2.1.length nj247_1)] 33) :: Lf) /\ Sh F20 F21 /\ FI f [] [(2, (pt b21 0))] /\ Aw Ao 33 F21 aj247_1 nj247_1 J252.2.1 ej247_1 /\ LC J252.2.2.1.length nj247_2 /\ SlA Af F21 aj247_2 J252.2.2.1) (fun wd241 hw242 => ?_) ?_ ?_
      ·refine Dv [0] ?_
       refine Dl 1 (fun _ hq => (hq.1.2 2 _ _ rfl)) ?_
       refine Dv [2] ?_
       refine D1 3 ?_
       obtain ⟨r253, hr254, h255⟩ := bind_some hj250
       refine DCP BK (hsR233 (hG.mono ((le31.trans le178).trans le236)) bp0 r231.1 ar231_0_0 nr231_0_0 hbr231_0_0 hsr231_0_0 hw242 _ hr254) ?_ ?_
       ·rintro r256 _ F22 w258 _ rfl hs259 le260 ⟨ar256_0_0, nr256_0_0, ar256_1_2, nr256_1_2, rfl, rfl, hbr256_0_0, hsr256_0_0, hbr256_1_2, hsr256_1_2⟩
        have h262 := BM h255
        refine ⟨Bu hs259 le260 (by simp) (fun _ => by simp), ?_⟩
        refine D1 4 ?_
        refine DBs 33 [(vi r27.2.Op), (vi r27.2.Value), (.slice ar27_1_2 r27.2.Kids.length nr27_1_2), (vi r256.2.Op), (vi r256.2.Value), (.slice ar256_1_2 r256.2.Kids.length nr256_1_2)] hs259 le260 (fun b263 w264 hs265 => ?_)
        have hr267 : Aw Ao 33 F22 (some ⟨b263, 0, none⟩) 2 [r27.2, r256.2] (some b263, .cells ([(vi r27.2.Op), (vi r27.2.Value), (.slice ar27_1_2 r27.2.Kids.length nr27_1_2), (vi r256.2.Op), (vi r256.2.Value), (.slice ar256_1_2 r256.2.Kids.length nr256_1_2)] : List Value).toArray 33 (0, 0)) := SC ⟨(Bb ⟨ar27_1_2, nr27_1_2, rfl, hbr27_1_2, (Sk hsr27_1_2 ((le178.trans le236).trans le260))⟩), ⟨(Bb ⟨ar256_1_2, nr256_1_2, rfl, hbr256_1_2, hsr256_1_2⟩), rfl⟩⟩ (by simp)
        refine Dv [5] ?_
        refine D1 6 ?_
        refine QI #[(vi 6), (vi 0), (.slice (some ⟨b263, 0, none⟩) [r27.2, r256.2].length 2)] hs265 le260 (fun w268 hs269 => ?_)
        obtain rfl := Aa h262
        exact SA (by kernel_rfl) ⟨_, rfl, F22, (some ⟨b263, 0, none⟩), 2, (some b263, .cells ([(vi r27.2.Op), (vi r27.2.Value), (.slice ar27_1_2 r27.2.Kids.length nr27_1_2), (vi r256.2.Op), (vi r256.2.Value), (.slice ar256_1_2 r256.2.Kids.length nr256_1_2)] : List Value).toArray 33 (0, 0)), ar256_0_0, nr256_0_0, hs269.dr2.dr2.dr2, le260, fI, hr267, hbr256_0_0, hsr256_0_0⟩
       ·rintro b270 F23 w271 rfl hs272 le273
        have h274 := Bj h255
        obtain rfl := Aa h274
        exact ⟨rfl, _, _, rfl, rfl, hs272.dr0.dr0.dr0.dr0, le273⟩
      ·rintro f w243 ⟨J252, rfl, F21, aj247_1, nj247_1, ej247_1, aj247_2, nj247_2, hs244, le245, ⟨_, rfl⟩, hrj247_1, hbj247_2, hsj247_2⟩
       have h276 := BM h251
       refine Ac ?_
       refine Rt ?_
       refine Ai ?_
       refine Ae ?_
       refine Ai ?_
       refine Ae ?_
       have hb280 := SB hrj247_1
       obtain ⟨F24, hs277, le278, hs279⟩ := hs244.fr0 hrj247_1
       obtain rfl := Aa h276
       exact ⟨rfl, (.agg #[(vi J252.1), (vi 0), (.slice aj247_1 J252.2.1.length nj247_1)]), AC (l := [.cell 2 33]) (by kernel_rfl) (vs := [(.agg #[(vi J252.1), (vi 0), (.slice aj247_1 J252.2.1.length nj247_1)])]) ⟨b21, 0, rfl, Aj (t := 33) (g := true) (s := 3) (by kernel_rfl) hs277.at1 rfl (by decide), trivial⟩, .inl ⟨_, F24, _, _, rfl, rfl, hs277.dr1, ((((le31.trans le178).trans le236).trans le245).trans le278), ⟨aj247_2, nj247_2, aj247_1, nj247_1, rfl, rfl, hbj247_2, (Sk hsj247_2 le278), hb280, hs279⟩⟩⟩
      ·rintro c f w282 ⟨hd285, b281, F25, rfl, rfl, hs283, le284⟩
       have h286 := Bj h251
       refine Am ?_
       refine AR ?_
       refine Am ?_
       refine AR ?_
       refine Am ?_
       obtain rfl := Aa h286
       exact ⟨hd285, .inr ⟨_, F25, rfl, rfl, hs283, (((le31.trans le178).trans le236).trans le284)⟩⟩
     ·refine Sc ?_
      refine Aq ?_
      refine Ac ?_
      refine URL.step ?_
      refine Sq (Rg [0, 1] ?_)
      refine RWP.litNext0  (dst := (some 11)) (ty := 0) (g := none) (by kernel_rfl) rfl (x := (.tmp 10)) (r := b46) (ki := 1) (km := 2) rfl hs235 rfl rfl (by kernel_rfl) (by kernel_rfl) ?_
      ·rintro w287 (hs288 : HS wb Fb w287 F20 ((sb bp0 (Ad r231.1 ar231_0_0 nr231_0_0) 100) :: (some b46, (.mapIter (some b39) 2 #[1, 0] 2)) :: (some b39, (.map #[⟨(.string ⟨(([61] : SF)).toArray⟩), (vi 6), 0⟩, ⟨(.string ⟨(([60] : SF)).toArray⟩), (vi 7), 1⟩] 2)) :: (sb b34 (Ag r27.2 ar27_1_2 nr27_1_2) 33) :: (sb b21 #[(vi 0), (vi 0), (.slice none ([] : List Expr).length 0)] 33) :: Lf))
       refine Vs 1 ?_
       refine Nss ?_
       refine C0 (rfl : false = false) ?_
       refine Ex ?_
       refine Av ?_
       refine Av ?_
       refine AE rfl ?_
       refine Ac ?_
       refine Sq (Rg [0, 1] ?_)
       refine Ld hs288.at3 ?_
       refine St4 (Ag r27.2 ar27_1_2 nr27_1_2) hs288 (fun w289 hs290 => ?_)
       refine Nt ?_
       refine Rt ?_
       obtain rfl := Aa h240
       exact ⟨rfl, (.agg (Ag r27.2 ar27_1_2 nr27_1_2)), AC (l := [.cell 2 33]) (by kernel_rfl) (vs := [(.agg (Ag r27.2 ar27_1_2 nr27_1_2))]) ⟨b21, 0, rfl, Aj (t := 33) (g := true) (s := 3) (by kernel_rfl) hs290.at4 rfl (by decide), trivial⟩, .inl ⟨_, F20, _, _, rfl, rfl, hs290.dr1.dr1.dr1.dr1, ((le31.trans le178).trans le236), ⟨ar231_0_0, nr231_0_0, ar27_1_2, nr27_1_2, rfl, rfl, hbr231_0_0, hsr231_0_0, hbr27_1_2, (Sk hsr27_1_2 (le178.trans le236))⟩⟩⟩
 ·rintro b291 F26 w292 rfl hs293 le294
  have h295 := Bj h26
  refine Am ?_
  obtain rfl := Aa h295
  exact Cj hs293.dr0 le294
def EK (N : Nat) (sR239 : Ab -> Option (Ah ⊕ (Ab × Expr))) (x0 : Ab) : Option (Ah ⊕ (Ab × Expr)) :=
 ((Bt N x0 (fun y => sR239 y) (EL (EL ([] : List (SF × Int)) ([43] : SF) 8) ([45] : SF) 9)).bind fun r41 => sk r41 (fun b53 => some (.inl b53)) (fun r44 => some (.inr (r44.1, r44.2))))
theorem HB (N : Nat) (sR239 : Ab -> Option (Ah ⊕ (Ab × Expr))) (hsR239 : MC sR239) {wb w0 : World} {Fb F0 : Mem} {Lf : Own} (hG : B0 F0) (bp0 : Nat) (x0 : Ab) (a0_0 : SG) (n0_0 : Nat) (hb0_0 : LC x0.l_.length n0_0) (hs0_0 : SlA Af F0 a0_0 x0.l_) (hs0 : HS wb Fb w0 F0 ((sb bp0 (Ad x0 a0_0 n0_0) 100) :: Lf)) (r : (Ah ⊕ (Ab × Expr))) (h : EK N sR239 x0 = some r) :
  Calls Tryz.prog 233 ([(pt bp0 0)] : List Value).toArray w0 (BB wb Fb F0 Lf r (fun b => (.iface 158 (.agg (AL b)))) fun a F' v L' => ∃ (aq0_0 : SG) (nq0_0 : Nat) (aq1_2 : SG) (nq1_2 : Nat), v = (.agg (Ag a.2 aq1_2 nq1_2)) /\ L' = (sb bp0 (Ad a.1 aq0_0 nq0_0) 100) :: Lf /\ LC a.1.l_.length nq0_0 /\ SlA Af F' aq0_0 a.1.l_ /\ LC a.2.Kids.length nq1_2 /\ SlA Ao F' aq1_2 a.2.Kids) := by
 refine Go 9 Tryz.func233 ?_
 refine Sq (Rg [0] ?_)
 refine Al' 33 #[(vi 0), (vi 0), (.slice none ([] : List Expr).length 0)] hs0 (fun b21 w22 hs23 => ?_)
 refine Nss (Rg [0, 1, 2, 3, 4, 5, 6, 7, 8] ?_)
 refine Vs 3 ?_
 refine RWP.makeMap (t := 198) (K := EF) (T := Ck) (dst := (some 6)) (ty := 198) (g := none) (by kernel_rfl) rfl hs23 (fun b25 e26 w27 (hs28 : HS wb Fb w27 F0 (e26 :: (sb b21 #[(vi 0), (vi 0), (.slice none ([] : List Expr).length 0)] 33) :: (sb bp0 (Ad x0 a0_0 n0_0) 100) :: Lf)) hr29 => ?_)
 refine RWP.mapIns kl9 (ty := 0) (g := none) (mt := 198) (k := 9) (vt := 3) (m := (.tmp 6)) (x := (.const (.string ⟨([43] : SF).toArray⟩))) (y := (.const (vi 8))) (b := b25) (kx := ([43] : SF)) (u := 8) (kv := (.string ⟨(([43] : SF)).toArray⟩)) (v := (vi 8)) (K := EF) (T := Ck) (by kernel_rfl) rfl rfl rfl rfl ⟨_, rfl, rfl⟩ ⟨_, rfl, rfl⟩ (by kernel_rfl) hs28 (q := 0) rfl hr29 (fun e30 w31 (hs32 : HS wb Fb w31 F0 (e30 :: (sb b21 #[(vi 0), (vi 0), (.slice none ([] : List Expr).length 0)] 33) :: (sb bp0 (Ad x0 a0_0 n0_0) 100) :: Lf)) hr33 => ?_)
 refine RWP.mapIns kl9 (ty := 0) (g := none) (mt := 198) (k := 9) (vt := 3) (m := (.tmp 6)) (x := (.const (.string ⟨([45] : SF).toArray⟩))) (y := (.const (vi 9))) (b := b25) (kx := ([45] : SF)) (u := 9) (kv := (.string ⟨(([45] : SF)).toArray⟩)) (v := (vi 9)) (K := EF) (T := Ck) (by kernel_rfl) rfl rfl rfl rfl ⟨_, rfl, rfl⟩ ⟨_, rfl, rfl⟩ (by kernel_rfl) hs32 (q := 0) rfl hr33 (fun e34 w35 (hs36 : HS wb Fb w35 F0 (e34 :: (sb b21 #[(vi 0), (vi 0), (.slice none ([] : List Expr).length 0)] 33) :: (sb bp0 (Ad x0 a0_0 n0_0) 100) :: Lf)) hr37 => ?_)
 refine Vs 1 ?_
 obtain ⟨F1, hs38, le39, hm40⟩ : ∃ Fq, HS wb Fb w35 Fq ((sb b21 #[(vi 0), (vi 0), (.slice none ([] : List Expr).length 0)] 33) :: (sb bp0 (Ad x0 a0_0 n0_0) 100) :: Lf) /\ Sh F0 Fq /\ MpA EF Ck Fq (some b25) (EL (EL ([] : List (SF × Int)) ([43] : SF) 8) ([45] : SF) 9) := HS.freezeMap hs36 (i := 0) rfl hr37
 obtain ⟨r41, hr42, h43⟩ := bind_some h
 refine CP Bw (BF N (hG.mono le39) bp0 x0 a0_0 n0_0 hb0_0 (Sk hs0_0 le39) 239 [(pt bp0 0)] ([] : List Value) (fun y => sR239 y) GR (fun {_ _ _ _ _} hGe y ay_0 ny_0 hby_0 hsy_0 hs r h => hsR239 hGe bp0 y ay_0 ny_0 hby_0 hsy_0 hs r h) ((EL (EL ([] : List (SF × Int)) ([43] : SF) 8) ([45] : SF) 9)) (some b25) hm40 hs38.pk1 _ hr42) ?_ ?_
 ·rintro r44 _ F2 w46 _ rfl hs47 le48 ⟨ar44_0_0, nr44_0_0, ar44_1_2, nr44_1_2, rfl, rfl, hbr44_0_0, hsr44_0_0, hbr44_1_2, hsr44_1_2⟩
  have h50 := BM h43
  refine St1 (Ag r44.2 ar44_1_2 nr44_1_2) hs47 (fun w51 hs52 => ?_)
  refine Nt ?_
  refine Rt ?_
  obtain rfl := Aa h50
  exact ⟨rfl, (.agg (Ag r44.2 ar44_1_2 nr44_1_2)), AC (l := [.cell 2 33]) (by kernel_rfl) (vs := [(.agg (Ag r44.2 ar44_1_2 nr44_1_2))]) ⟨b21, 0, rfl, Aj (t := 33) (g := true) (s := 3) (by kernel_rfl) hs52.at1 rfl (by decide), trivial⟩, .inl ⟨_, F2, _, _, rfl, rfl, hs52.dr1, (le39.trans le48), ⟨ar44_0_0, nr44_0_0, ar44_1_2, nr44_1_2, rfl, rfl, hbr44_0_0, hsr44_0_0, hbr44_1_2, hsr44_1_2⟩⟩⟩
 ·rintro b53 F3 w54 rfl hs55 le56
  have h57 := Bj h43
  refine Am ?_
  obtain rfl := Aa h57
  exact Cj hs55.dr0 (le39.trans le56)
end Go.Proofs.YtaihlcdkcampbaaGreatDoor
