/- Lemmas of the claim LogsLooks, printed by a program of the claimant and by hand. No statement of the seat is proved here. -/
import Derived.Test.YthljkpeimofbbaaGreatDoorE18x4
set_option linter.unusedVariables false
set_option linter.unusedSimpArgs false
set_option linter.unusedSectionVars false
set_option maxHeartbeats 4000000
set_option maxRecDepth 100000
namespace Go.Proofs.YthljkpeimofbbaaGreatDoor
def FQ (N : Nat) (x0 : Ae) (x1 : Log) (x2 : (List Fix)) (r30 : (Int × Int)) (j47 : (List Int × List Line)) : (List Fix × Int × Bool × Bool × Bool × Vo × Int × Int × Int × List Int × List Line) -> Option (A8 (Log × (List Fix) × Int × Int) (List Fix × Int × Bool × Bool × Bool × Vo × Int × Int × Int × List Int × List Line)) := fun s180 =>
 (bif (decide (s180.2.1 < (x2.length : Int))) then ((idx x2 s180.2.1).bind fun x213 => (bif (x213.Kind == 1) then ((EZ N ({ o_ := ({ Report := s180.2.2.1, Serial := s180.2.2.2.1, Zone := s180.2.2.2.2.1 } : Ae), l_ := ({ Call := s180.2.2.2.2.2.1, Category := s180.2.2.2.2.2.2.1, Power := s180.2.2.2.2.2.2.2.1, Claimed := s180.2.2.2.2.2.2.2.2.1, Jumps := s180.2.2.2.2.2.2.2.2.2.1, Lines := s180.2.2.2.2.2.2.2.2.2.2 } : Log) } : A3) x213).bind fun r236 => (bif (!r236.2.2) then none else ((Cr s180.1 [r236.2.1]).bind fun r256 => some (.next (r256, (W64 (s180.2.1 + 1)), r236.1.o_.Report, r236.1.o_.Serial, r236.1.o_.Zone, r236.1.l_.Call, r236.1.l_.Category, r236.1.l_.Power, r236.1.l_.Claimed, r236.1.l_.Jumps, r236.1.l_.Lines))))) else none)) else some (.done (s180.1, s180.2.1, s180.2.2.1, s180.2.2.2.1, s180.2.2.2.2.1, s180.2.2.2.2.2.1, s180.2.2.2.2.2.2.1, s180.2.2.2.2.2.2.2.1, s180.2.2.2.2.2.2.2.2.1, s180.2.2.2.2.2.2.2.2.2.1, s180.2.2.2.2.2.2.2.2.2.2)))
def HJ (N : Nat) (x0 : Ae) (x1 : Log) (x2 : (List Fix)) : Option (Log × (List Fix) × Int × Int) :=
 ((GY N ({ Report := x0.Report, Serial := x0.Serial, Zone := x0.Zone } : Ae) x1).bind fun r30 => (bif (r30.1 != 0) then none else (((EG N x1.Jumps).bind fun r55 => ((Cs N x1.Lines).bind fun r73 => some (r55, r73))).bind fun j47 => ((AL (FQ N x0 x1 x2 r30 j47) N (([] : List Fix), 0, x0.Report, x0.Serial, x0.Zone, x1.Call, x1.Category, x1.Power, x1.Claimed, j47.1, j47.2)).bind fun o => o.k (fun r => some r) (fun s194 => (((IK N ({ Report := x0.Report, Serial := x0.Serial, Zone := x0.Zone } : Ae) ({ Call := s194.2.2.2.2.2.1, Category := s194.2.2.2.2.2.2.1, Power := s194.2.2.2.2.2.2.2.1, Claimed := s194.2.2.2.2.2.2.2.2.1, Jumps := s194.2.2.2.2.2.2.2.2.2.1, Lines := s194.2.2.2.2.2.2.2.2.2.2 } : Log)).bind fun r283 => some (!r283)).bind fun j274 => (bif j274 then none else some (({ Call := s194.2.2.2.2.2.1, Category := s194.2.2.2.2.2.2.1, Power := s194.2.2.2.2.2.2.2.1, Claimed := s194.2.2.2.2.2.2.2.2.1, Jumps := s194.2.2.2.2.2.2.2.2.2.1, Lines := s194.2.2.2.2.2.2.2.2.2.2 } : Log), s194.1, 0, 0))))))))
theorem JX : Ad Tryz.prog 120 := fun _ _ => by kernel_rfl
theorem KO (N : Nat) (w0 : World) (F0 : Mem) (hF : Vq w0 F0) (hG : Bu F0) (x0 : Ae) (x1 : Log) (a1_4 : Vp) (n1_4 : Nat) (hb1_4 : LC x1.Jumps.length n1_4) (hs1_4 : SlA Az F0 a1_4 x1.Jumps) (a1_5 : Vp) (n1_5 : Nat) (hb1_5 : LC x1.Lines.length n1_5) (hs1_5 : SlA AD F0 a1_5 x1.Lines) (x2 : (List Fix)) (a2_0 : Vp) (n2_0 : Nat) (hb2_0 : LC x2.length n2_0) (hs2_0 : SlA Js F0 a2_0 x2) (r : (Log × (List Fix) × Int × Int)) (h : HJ N x0 x1 x2 = some r) :
  Calls Tryz.prog 120 ([(.agg (Al x0)), (.agg (As x1 a1_4 n1_4 a1_5 n1_5)), (.slice a2_0 x2.length n2_0)] : List Value).toArray w0 (Ng w0 F0 fun F' v L' => ∃ (aq0_4 : Vp) (nq0_4 : Nat) (aq0_5 : Vp) (nq0_5 : Nat) (eq0_5 : Option Nat × Obj) (aq1_0 : Vp) (nq1_0 : Nat) (eq1_0 : Option Nat × Obj), v = (.tuple #[(.agg (As r.1 aq0_4 nq0_4 aq0_5 nq0_5)), (.slice aq1_0 r.2.1.length nq1_0), (vi r.2.2.1), (vi r.2.2.2)]) /\ L' = [eq0_5, eq1_0] /\ LC r.1.Jumps.length nq0_4 /\ SlA Az F' aq0_4 r.1.Jumps /\ Am AD 34 F' aq0_5 nq0_5 r.1.Lines eq0_5 /\ Am Js 64 F' aq1_0 nq1_0 r.2.1 eq1_0) := by
 have hs0 := U4 hF
 refine Go 99 Tryz.func120 <| Sq (Rg (rG 6) ?_)
 refine Bx' 23 (Al x0) hs0 (fun b21 w22 hs23 => ?_)
 refine Bx' 27 (As x1 a1_4 n1_4 a1_5 n1_5) hs23 (fun b24 w25 hs26 => ?_)
 refine Al' 27 #[(sv (([] : Vo))), (vi 0), (vi 0), (vi 0), (.slice none ([] : List Int).length 0), (.slice none ([] : List Line).length 0)] hs26 (fun b27 w28 hs29 => ?_)
 refine Vs 3 <| Nss <| Sq (Rg (rG 8) ?_)
 refine Ld hs29.at2 <| Ld hs29.at1 ?_
 obtain ⟨r30, hr31, h32⟩ := bind_some h
 refine Cl' Gh hs29 (G7 N w28 F0 hs29.pers hG (({ Report := x0.Report, Serial := x0.Serial, Zone := x0.Zone } : Ae)) x1 a1_4 n1_4 hb1_4 hs1_4 a1_5 n1_5 hb1_5 hs1_5 _ hr31) ?_
 rintro _ F1 w34 hs35 le36 rfl
 refine Vs 5 <| Nss (Rg [0, 1] ?_)
 refine Vs 2 <| Nt <| Cd h32 (fun hb38 h39 => ?_) (fun hb38 h40 => ?_)
 ·cases h39
 ·refine Sc ?_
  refine Ab <| Sq ?_
  obtain ⟨j47, hj53, h54⟩ := bind_some h40
  refine RD 9 10 [(sb b27 #[(sv (([] : Vo))), (vi 0), (vi 0), (vi 0), (.slice none ([] : List Int).length 0), (.slice none ([] : List Line).length 0)] 27), (sb b21 (Al x0) 23)] [] hs35 (fun f w => ∃ (F2 : Mem) (aj47_0 : Vp) (nj47_0 : Nat) (aj47_1 : Vp) (nj47_1 : Nat) (ej47_1 : Option Nat × Obj), HS w0 F0 w F2 [ej47_1, (sb b27 #[(sv (([] : Vo))), (vi 0), (vi 0), (vi 0), (.slice none ([] : List Int).length 0), (.slice none ([] : List Line).length 0)] 27), (sb b24 #[(sv x1.Call), (vi x1.Category), (vi x1.Power), (vi x1.Claimed), (.slice aj47_0 j47.1.length nj47_0), (.slice aj47_1 j47.2.length nj47_1)] 27), (sb b21 (Al x0) 23)] /\ U2 F1 F2 /\ FI f [] [(2, (.slice a2_0 x2.length n2_0)), (3, (pt b21 0)), (4, (pt b24 0)), (6, (pt b27 0))] /\ LC j47.1.length nj47_0 /\ SlA Az F2 aj47_0 j47.1 /\ Am AD 34 F2 aj47_1 nj47_1 j47.2 ej47_1) (fun wd41 hw42 => ?_) ?_
  ·refine Dv [0, 3] ?_
   refine Vb (i := 1) (j := 4) (by kernel_rfl) ?_ ?_
   ·refine Vc (l' := [true, true, false, true, false, false, false, false, false, false]) (zd := false) (by kernel_rfl) (by kernel_rfl) (dst := (some 32)) (ty := 24) (g := none) (by kernel_rfl) rfl (BC (t := 24) (x := (.tmp 31)) (b := b24) (o := 4) (g := false) (s := 1) (C := (As x1 a1_4 n1_4 a1_5 n1_5)) (v := (.slice a1_4 x1.Jumps.length n1_4)) rfl (by kernel_rfl) hw42.at1 rfl rfl rfl) (Bb hw42 (U3 _) (by simp) (fun _ => by simp)) ?_
    refine Vb (i := 2) (j := 4) (by kernel_rfl) ?_ ?_
    ·obtain ⟨r55, hr56, h57⟩ := bind_some hj53
     refine Au.callO (l' := [true, true, true, true, false, false, false, false, false, false]) (zd := false) (by kernel_rfl) (by kernel_rfl) (by kernel_rfl) (dst := (some 33)) (ty := 24) (g := none) (by kernel_rfl) rfl (f0 := (.func 176)) (aos := #[(.tmp 32)]) (ats := #[24]) (fid := 176) (first := #[]) (cap := #[]) (args := [(.slice a1_4 x1.Jumps.length n1_4)]) rfl Cv rfl hw42 (CK N wd41 F1 hw42.pers x1.Jumps a1_4 n1_4 hb1_4 (U5 hs1_4 le36) _ hr56) ?_
     rintro _ F3 w59 _ hs60 le61 ⟨a63, n64, e65, rfl, rfl, hr66⟩
     have hs68 : HS w0 F0 w59 F3 [e65, (sb b27 #[(sv (([] : Vo))), (vi 0), (vi 0), (vi 0), (.slice none ([] : List Int).length 0), (.slice none ([] : List Line).length 0)] 27), (sb b24 (As x1 a1_4 n1_4 a1_5 n1_5) 27), (sb b21 (Al x0) 23)] := hs60
     have hb72 := Vh hr66
     obtain ⟨F4, hs69, le70, hs71⟩ := hs68.fr0 hr66
     refine D1 4 <| Vc (l' := [true, true, true, true, true, false, false, false, false, false]) (zd := false) (by kernel_rfl) (by kernel_rfl) (dst := (some 35)) (ty := 25) (g := none) (by kernel_rfl) rfl (BC (t := 25) (x := (.tmp 34)) (b := b24) (o := 5) (g := false) (s := 1) (C := (As x1 a1_4 n1_4 a1_5 n1_5)) (v := (.slice a1_5 x1.Lines.length n1_5)) rfl (by kernel_rfl) hs69.at1 rfl rfl rfl) (Bb hs69 (le61.t le70) (by simp) (fun _ => by simp)) <| Dv [6] <| D1 5 ?_
     obtain ⟨r73, hr74, h75⟩ := bind_some h57
     refine Au.callO (l' := [true, true, true, true, true, true, true, false, false, false]) (zd := false) (by kernel_rfl) (by kernel_rfl) (by kernel_rfl) (dst := (some 36)) (ty := 25) (g := none) (by kernel_rfl) rfl (f0 := (.func 177)) (aos := #[(.tmp 35)]) (ats := #[25]) (fid := 177) (first := #[]) (cap := #[]) (args := [(.slice a1_5 x1.Lines.length n1_5)]) rfl Bv rfl hs69 (Bx N w59 F4 hs69.pers x1.Lines a1_5 n1_5 hb1_5 (U5 hs1_5 ((le36.t le61).trans le70)) _ hr74) ?_
     rintro _ F5 w77 _ hs78 le79 ⟨a81, n82, e83, rfl, rfl, hr84⟩
     have hs86 : HS w0 F0 w77 F5 [e83, (sb b27 #[(sv (([] : Vo))), (vi 0), (vi 0), (vi 0), (.slice none ([] : List Int).length 0), (.slice none ([] : List Line).length 0)] 27), (sb b24 (As x1 a1_4 n1_4 a1_5 n1_5) 27), (sb b21 (Al x0) 23)] := hs78
     refine D1 7 <| NI #[(sv x1.Call), (vi x1.Category), (vi x1.Power), (vi x1.Claimed), (.slice a63 r55.length n64), (.slice a1_5 x1.Lines.length n1_5)] hs86 ((le61.t le70).trans le79) (fun w87 hs88 => ?_)
     refine Dv [8] <| D1 9 <| NI #[(sv x1.Call), (vi x1.Category), (vi x1.Power), (vi x1.Claimed), (.slice a63 r55.length n64), (.slice a81 r73.length n82)] hs88 ((le61.t le70).trans le79) (fun w89 hs90 => ?_)
     obtain rfl := Aa h75
     exact Vf (by kernel_rfl) ⟨F5, a63, n64, a81, n82, e83, hs90, ((le61.t le70).trans le79), fI, hb72, (U5 hs71 le79), hr84⟩
    ·refine Vc (l' := [true, true, false, true, true, false, false, false, false, false]) (zd := false) (by kernel_rfl) (by kernel_rfl) (dst := (some 35)) (ty := 25) (g := none) (by kernel_rfl) rfl (BC (t := 25) (x := (.tmp 34)) (b := b24) (o := 5) (g := false) (s := 1) (C := (As x1 a1_4 n1_4 a1_5 n1_5)) (v := (.slice a1_5 x1.Lines.length n1_5)) rfl (by kernel_rfl) hw42.at1 rfl rfl rfl) (Bb hw42 (U3 _) (by simp) (fun _ => by simp)) ?_
     refine D1 2 ?_
     obtain ⟨r91, hr92, h93⟩ := bind_some hj53
     refine Au.callO (l' := [true, true, true, true, true, false, false, false, false, false]) (zd := false) (by kernel_rfl) (by kernel_rfl) (by kernel_rfl) (dst := (some 33)) (ty := 24) (g := none) (by kernel_rfl) rfl (f0 := (.func 176)) (aos := #[(.tmp 32)]) (ats := #[24]) (fid := 176) (first := #[]) (cap := #[]) (args := [(.slice a1_4 x1.Jumps.length n1_4)]) rfl Cv rfl hw42 (CK N wd41 F1 hw42.pers x1.Jumps a1_4 n1_4 hb1_4 (U5 hs1_4 le36) _ hr92) ?_
     rintro _ F6 w95 _ hs96 le97 ⟨a99, n100, e101, rfl, rfl, hr102⟩
     have hs104 : HS w0 F0 w95 F6 [e101, (sb b27 #[(sv (([] : Vo))), (vi 0), (vi 0), (vi 0), (.slice none ([] : List Int).length 0), (.slice none ([] : List Line).length 0)] 27), (sb b24 (As x1 a1_4 n1_4 a1_5 n1_5) 27), (sb b21 (Al x0) 23)] := hs96
     have hb108 := Vh hr102
     obtain ⟨F7, hs105, le106, hs107⟩ := hs104.fr0 hr102
     refine Dv [6] <| D1 5 ?_
     obtain ⟨r109, hr110, h111⟩ := bind_some h93
     refine Au.callO (l' := [true, true, true, true, true, true, true, false, false, false]) (zd := false) (by kernel_rfl) (by kernel_rfl) (by kernel_rfl) (dst := (some 36)) (ty := 25) (g := none) (by kernel_rfl) rfl (f0 := (.func 177)) (aos := #[(.tmp 35)]) (ats := #[25]) (fid := 177) (first := #[]) (cap := #[]) (args := [(.slice a1_5 x1.Lines.length n1_5)]) rfl Bv rfl hs105 (Bx N w95 F7 hs105.pers x1.Lines a1_5 n1_5 hb1_5 (U5 hs1_5 ((le36.t le97).trans le106)) _ hr110) ?_
     rintro _ F8 w113 _ hs114 le115 ⟨a117, n118, e119, rfl, rfl, hr120⟩
     have hs122 : HS w0 F0 w113 F8 [e119, (sb b27 #[(sv (([] : Vo))), (vi 0), (vi 0), (vi 0), (.slice none ([] : List Int).length 0), (.slice none ([] : List Line).length 0)] 27), (sb b24 (As x1 a1_4 n1_4 a1_5 n1_5) 27), (sb b21 (Al x0) 23)] := hs114
     refine D1 7 <| NI #[(sv x1.Call), (vi x1.Category), (vi x1.Power), (vi x1.Claimed), (.slice a99 r91.length n100), (.slice a1_5 x1.Lines.length n1_5)] hs122 ((le97.t le106).trans le115) (fun w123 hs124 => ?_)
     refine Dv [8] <| D1 9 <| NI #[(sv x1.Call), (vi x1.Category), (vi x1.Power), (vi x1.Claimed), (.slice a99 r91.length n100), (.slice a117 r109.length n118)] hs124 ((le97.t le106).trans le115) (fun w125 hs126 => ?_)
     obtain rfl := Aa h111
     exact Vf (by kernel_rfl) ⟨F8, a99, n100, a117, n118, e119, hs126, ((le97.t le106).trans le115), fI, hb108, (U5 hs107 le115), hr120⟩
   ·refine Vc (l' := [true, false, false, true, true, false, false, false, false, false]) (zd := false) (by kernel_rfl) (by kernel_rfl) (dst := (some 35)) (ty := 25) (g := none) (by kernel_rfl) rfl (BC (t := 25) (x := (.tmp 34)) (b := b24) (o := 5) (g := false) (s := 1) (C := (As x1 a1_4 n1_4 a1_5 n1_5)) (v := (.slice a1_5 x1.Lines.length n1_5)) rfl (by kernel_rfl) hw42.at1 rfl rfl rfl) (Bb hw42 (U3 _) (by simp) (fun _ => by simp)) ?_
    refine D1 1 <| Vc (l' := [true, true, false, true, true, false, false, false, false, false]) (zd := false) (by kernel_rfl) (by kernel_rfl) (dst := (some 32)) (ty := 24) (g := none) (by kernel_rfl) rfl (BC (t := 24) (x := (.tmp 31)) (b := b24) (o := 4) (g := false) (s := 1) (C := (As x1 a1_4 n1_4 a1_5 n1_5)) (v := (.slice a1_4 x1.Jumps.length n1_4)) rfl (by kernel_rfl) hw42.at1 rfl rfl rfl) (Bb hw42 (U3 _) (by simp) (fun _ => by simp)) <| D1 2 ?_
    obtain ⟨r127, hr128, h129⟩ := bind_some hj53
    refine Au.callO (l' := [true, true, true, true, true, false, false, false, false, false]) (zd := false) (by kernel_rfl) (by kernel_rfl) (by kernel_rfl) (dst := (some 33)) (ty := 24) (g := none) (by kernel_rfl) rfl (f0 := (.func 176)) (aos := #[(.tmp 32)]) (ats := #[24]) (fid := 176) (first := #[]) (cap := #[]) (args := [(.slice a1_4 x1.Jumps.length n1_4)]) rfl Cv rfl hw42 (CK N wd41 F1 hw42.pers x1.Jumps a1_4 n1_4 hb1_4 (U5 hs1_4 le36) _ hr128) ?_
    rintro _ F9 w131 _ hs132 le133 ⟨a135, n136, e137, rfl, rfl, hr138⟩
    have hs140 : HS w0 F0 w131 F9 [e137, (sb b27 #[(sv (([] : Vo))), (vi 0), (vi 0), (vi 0), (.slice none ([] : List Int).length 0), (.slice none ([] : List Line).length 0)] 27), (sb b24 (As x1 a1_4 n1_4 a1_5 n1_5) 27), (sb b21 (Al x0) 23)] := hs132
    have hb144 := Vh hr138
    obtain ⟨F10, hs141, le142, hs143⟩ := hs140.fr0 hr138
    refine Dv [6] <| D1 5 ?_
    obtain ⟨r145, hr146, h147⟩ := bind_some h129
    refine Au.callO (l' := [true, true, true, true, true, true, true, false, false, false]) (zd := false) (by kernel_rfl) (by kernel_rfl) (by kernel_rfl) (dst := (some 36)) (ty := 25) (g := none) (by kernel_rfl) rfl (f0 := (.func 177)) (aos := #[(.tmp 35)]) (ats := #[25]) (fid := 177) (first := #[]) (cap := #[]) (args := [(.slice a1_5 x1.Lines.length n1_5)]) rfl Bv rfl hs141 (Bx N w131 F10 hs141.pers x1.Lines a1_5 n1_5 hb1_5 (U5 hs1_5 ((le36.t le133).trans le142)) _ hr146) ?_
    rintro _ F11 w149 _ hs150 le151 ⟨a153, n154, e155, rfl, rfl, hr156⟩
    have hs158 : HS w0 F0 w149 F11 [e155, (sb b27 #[(sv (([] : Vo))), (vi 0), (vi 0), (vi 0), (.slice none ([] : List Int).length 0), (.slice none ([] : List Line).length 0)] 27), (sb b24 (As x1 a1_4 n1_4 a1_5 n1_5) 27), (sb b21 (Al x0) 23)] := hs150
    refine D1 7 <| NI #[(sv x1.Call), (vi x1.Category), (vi x1.Power), (vi x1.Claimed), (.slice a135 r127.length n136), (.slice a1_5 x1.Lines.length n1_5)] hs158 ((le133.t le142).trans le151) (fun w159 hs160 => ?_)
    refine Dv [8] <| D1 9 <| NI #[(sv x1.Call), (vi x1.Category), (vi x1.Power), (vi x1.Claimed), (.slice a135 r127.length n136), (.slice a153 r145.length n154)] hs160 ((le133.t le142).trans le151) (fun w161 hs162 => ?_)
    obtain rfl := Aa h147
    exact Vf (by kernel_rfl) ⟨F11, a135, n136, a153, n154, e155, hs162, ((le133.t le142).trans le151), fI, hb144, (U5 hs143 le151), hr156⟩
  ·rintro f w43 ⟨F2, aj47_0, nj47_0, aj47_1, nj47_1, ej47_1, hs44, le45, ⟨_, rfl⟩, hbj47_0, hsj47_0, hrj47_1⟩
   refine Ab <| Sq (Rg (rG 5) ?_)
   refine Ld hs44.at3 <| Ld hs44.at2 <| Vs 1 <| Bx' 214 #[(.bool x0.Report), (.bool x0.Serial), (.bool x0.Zone), (sv x1.Call), (vi x1.Category), (vi x1.Power), (vi x1.Claimed), (.slice aj47_0 j47.1.length nj47_0), (.slice aj47_1 j47.2.length nj47_1)] hs44 (fun b163 w164 hs165 => ?_)
   refine Vs 1 <| Nss (Rg (rG 12) ?_)
   refine RWP.litMap (dst := (some 43)) (ty := 216) (g := none) (by kernel_rfl) rfl (t := 216) hs165 (fun b166 w167 (hs168 : HS w0 F0 w167 F2 [(some b166, (.map #[] 0)), (sb b163 #[(.bool x0.Report), (.bool x0.Serial), (.bool x0.Zone), (sv x1.Call), (vi x1.Category), (vi x1.Power), (vi x1.Claimed), (.slice aj47_0 j47.1.length nj47_0), (.slice aj47_1 j47.2.length nj47_1)] 214), ej47_1, (sb b27 #[(sv (([] : Vo))), (vi 0), (vi 0), (vi 0), (.slice none ([] : List Int).length 0), (.slice none ([] : List Line).length 0)] 27), (sb b24 #[(sv x1.Call), (vi x1.Category), (vi x1.Power), (vi x1.Claimed), (.slice aj47_0 j47.1.length nj47_0), (.slice aj47_1 j47.2.length nj47_1)] 27), (sb b21 (Al x0) 23)]) => ?_)
   refine Vs 2 <| RWP.litIns (d := .int .i64) (k := 3) (vt := 215) (ty := 0) (g := none) (mt := 216) (m := (.tmp 43)) (x := (.const (vi 1))) (y := (.tmp 45)) (b := b166) (q := 0) (kv := (vi 1)) (v := (.func (.func 178) #[(pt b163 0)] #[])) (by kernel_rfl) rfl rfl rfl rfl (by kernel_rfl) (by kernel_rfl) rfl (by kernel_rfl) hs168 rfl rfl (fun w169 (hs170 : HS w0 F0 w169 F2 [(some b166, (.map #[⟨(vi 1), (.func (.func 178) #[(pt b163 0)] #[]), 0⟩] 1)), (sb b163 #[(.bool x0.Report), (.bool x0.Serial), (.bool x0.Zone), (sv x1.Call), (vi x1.Category), (vi x1.Power), (vi x1.Claimed), (.slice aj47_0 j47.1.length nj47_0), (.slice aj47_1 j47.2.length nj47_1)] 214), ej47_1, (sb b27 #[(sv (([] : Vo))), (vi 0), (vi 0), (vi 0), (.slice none ([] : List Int).length 0), (.slice none ([] : List Line).length 0)] 27), (sb b24 #[(sv x1.Call), (vi x1.Category), (vi x1.Power), (vi x1.Claimed), (.slice aj47_0 j47.1.length nj47_0), (.slice aj47_1 j47.2.length nj47_1)] 27), (sb b21 (Al x0) 23)]) => ?_)
   refine Vs 2 <| RWP.litIns (d := .int .i64) (k := 3) (vt := 215) (ty := 0) (g := none) (mt := 216) (m := (.tmp 43)) (x := (.const (vi 2))) (y := (.tmp 47)) (b := b166) (q := 0) (kv := (vi 2)) (v := (.func (.func 179) #[(pt b163 0)] #[])) (by kernel_rfl) rfl rfl rfl rfl (by kernel_rfl) (by kernel_rfl) rfl (by kernel_rfl) hs170 rfl rfl (fun w171 (hs172 : HS w0 F0 w171 F2 [(some b166, (.map #[⟨(vi 1), (.func (.func 178) #[(pt b163 0)] #[]), 0⟩, ⟨(vi 2), (.func (.func 179) #[(pt b163 0)] #[]), 1⟩] 2)), (sb b163 #[(.bool x0.Report), (.bool x0.Serial), (.bool x0.Zone), (sv x1.Call), (vi x1.Category), (vi x1.Power), (vi x1.Claimed), (.slice aj47_0 j47.1.length nj47_0), (.slice aj47_1 j47.2.length nj47_1)] 214), ej47_1, (sb b27 #[(sv (([] : Vo))), (vi 0), (vi 0), (vi 0), (.slice none ([] : List Int).length 0), (.slice none ([] : List Line).length 0)] 27), (sb b24 #[(sv x1.Call), (vi x1.Category), (vi x1.Power), (vi x1.Claimed), (.slice aj47_0 j47.1.length nj47_0), (.slice aj47_1 j47.2.length nj47_1)] 27), (sb b21 (Al x0) 23)]) => ?_)
   refine Vs 2 <| RWP.litIns (d := .int .i64) (k := 3) (vt := 215) (ty := 0) (g := none) (mt := 216) (m := (.tmp 43)) (x := (.const (vi 3))) (y := (.tmp 49)) (b := b166) (q := 0) (kv := (vi 3)) (v := (.func (.func 180) #[(pt b163 0)] #[])) (by kernel_rfl) rfl rfl rfl rfl (by kernel_rfl) (by kernel_rfl) rfl (by kernel_rfl) hs172 rfl rfl (fun w173 (hs174 : HS w0 F0 w173 F2 [(some b166, (.map #[⟨(vi 1), (.func (.func 178) #[(pt b163 0)] #[]), 0⟩, ⟨(vi 2), (.func (.func 179) #[(pt b163 0)] #[]), 1⟩, ⟨(vi 3), (.func (.func 180) #[(pt b163 0)] #[]), 2⟩] 3)), (sb b163 #[(.bool x0.Report), (.bool x0.Serial), (.bool x0.Zone), (sv x1.Call), (vi x1.Category), (vi x1.Power), (vi x1.Claimed), (.slice aj47_0 j47.1.length nj47_0), (.slice aj47_1 j47.2.length nj47_1)] 214), ej47_1, (sb b27 #[(sv (([] : Vo))), (vi 0), (vi 0), (vi 0), (.slice none ([] : List Int).length 0), (.slice none ([] : List Line).length 0)] 27), (sb b24 #[(sv x1.Call), (vi x1.Category), (vi x1.Power), (vi x1.Claimed), (.slice aj47_0 j47.1.length nj47_0), (.slice aj47_1 j47.2.length nj47_1)] 27), (sb b21 (Al x0) 23)]) => ?_)
   refine Vs 2 <| Nss (Rg [0] ?_)
   refine Vs 1 <| Nss <| Sq (Rg [0, 1, 2] ?_)
   refine Vs 3 <| Nt ?_
   have hs175 := hs174.dr4.dummy (oc #[] 0)
   obtain ⟨o177, ho178, h179⟩ := bind_some h54
   refine U9 (fun f w => ∃ (s194 : (List Fix × Int × Bool × Bool × Bool × Vo × Int × Int × Int × List Int × List Line)) (F13 : Mem) (as194_9 : Vp) (ns194_9 : Nat) (as194_10 : Vp) (ns194_10 : Nat) (es194_10 : Option Nat × Obj) (as194_0 : Vp) (ns194_0 : Nat) (es194_0 : Option Nat × Obj), o177 = .done s194 /\ HS w0 F0 w F13 [es194_0, (sb b163 #[(.bool s194.2.2.1), (.bool s194.2.2.2.1), (.bool s194.2.2.2.2.1), (sv s194.2.2.2.2.2.1), (vi s194.2.2.2.2.2.2.1), (vi s194.2.2.2.2.2.2.2.1), (vi s194.2.2.2.2.2.2.2.2.1), (.slice as194_9 s194.2.2.2.2.2.2.2.2.2.1.length ns194_9), (.slice as194_10 s194.2.2.2.2.2.2.2.2.2.2.length ns194_10)] 214), es194_10, (sb b27 #[(sv (([] : Vo))), (vi 0), (vi 0), (vi 0), (.slice none ([] : List Int).length 0), (.slice none ([] : List Line).length 0)] 27), (sb b21 (Al x0) 23)] /\ U2 F2 F13 /\ FI f [] [(2, (.slice a2_0 x2.length n2_0)), (3, (pt b21 0)), (6, (pt b27 0)), (12, (pt b163 0)), (14, (.slice as194_0 s194.1.length ns194_0))] /\ LC s194.2.2.2.2.2.2.2.2.2.1.length ns194_9 /\ SlA Az F13 as194_9 s194.2.2.2.2.2.2.2.2.2.1 /\ Am AD 34 F13 as194_10 ns194_10 s194.2.2.2.2.2.2.2.2.2.2 es194_10 /\ Am Js 64 F13 as194_0 ns194_0 s194.1 es194_0) ?_ ?_
   ·refine Bk ?_
    refine U1 (by kernel_rfl) (fun m f w => ∃ (s180 : (List Fix × Int × Bool × Bool × Bool × Vo × Int × Int × Int × List Int × List Line)) (F12 : Mem) (as180_9 : Vp) (ns180_9 : Nat) (as180_10 : Vp) (ns180_10 : Nat) (es180_10 : Option Nat × Obj) (as180_0 : Vp) (ns180_0 : Nat) (es180_0 : Option Nat × Obj), AL (FQ N x0 x1 x2 r30 j47) m s180 = some o177 /\ HS w0 F0 w F12 [es180_0, (some b166, (.map #[⟨(vi 1), (.func (.func 178) #[(pt b163 0)] #[]), 0⟩, ⟨(vi 2), (.func (.func 179) #[(pt b163 0)] #[]), 1⟩, ⟨(vi 3), (.func (.func 180) #[(pt b163 0)] #[]), 2⟩] 3)), (sb b163 #[(.bool s180.2.2.1), (.bool s180.2.2.2.1), (.bool s180.2.2.2.2.1), (sv s180.2.2.2.2.2.1), (vi s180.2.2.2.2.2.2.1), (vi s180.2.2.2.2.2.2.2.1), (vi s180.2.2.2.2.2.2.2.2.1), (.slice as180_9 s180.2.2.2.2.2.2.2.2.2.1.length ns180_9), (.slice as180_10 s180.2.2.2.2.2.2.2.2.2.2.length ns180_10)] 214), es180_10, (sb b27 #[(sv (([] : Vo))), (vi 0), (vi 0), (vi 0), (.slice none ([] : List Int).length 0), (.slice none ([] : List Line).length 0)] 27), (sb b21 (Al x0) 23)] /\ U2 F2 F12 /\ FI f [] [(2, (.slice a2_0 x2.length n2_0)), (3, (pt b21 0)), (6, (pt b27 0)), (12, (pt b163 0)), (13, (.map (some b166))), (14, (.slice as180_0 s180.1.length ns180_0)), (51, (.slice a2_0 x2.length n2_0)), (52, (vi (x2.length : Int))), (53, (vi s180.2.1))] /\ LC s180.2.2.2.2.2.2.2.2.2.1.length ns180_9 /\ SlA Az F12 as180_9 s180.2.2.2.2.2.2.2.2.2.1 /\ Am AD 34 F12 as180_10 ns180_10 s180.2.2.2.2.2.2.2.2.2.2 es180_10 /\ Am Js 64 F12 as180_0 ns180_0 s180.1 es180_0) N ⟨(([] : List Fix), 0, x0.Report, x0.Serial, x0.Zone, x1.Call, x1.Category, x1.Power, x1.Claimed, j47.1, j47.2), F2, aj47_0, nj47_0, aj47_1, nj47_1, ej47_1, none, 0, (none, .cells #[] 0 (0, 0)), ho178, hs175, (U3 _), fI, hbj47_0, hsj47_0, hrj47_1, (Vi Js 64 F2 _)⟩ ?_
    rintro m204 f w181 ⟨s180, F12, as180_9, ns180_9, as180_10, ns180_10, es180_10, as180_0, ns180_0, es180_0, hit205, hs182, le183, ⟨_, rfl⟩, hbs180_9, hss180_9, hrs180_10, hrs180_0⟩
    obtain ⟨m206, fl207, rfl, hb208, hnx209⟩ := AF hit205
    refine Sq (Rg [0] ?_)
    refine Vs 1 <| Nss <| Cd hb208 (fun hb210 h211 => ?_) (fun hb210 h212 => ?_)
    ·refine Sc ?_
     refine Ab <| Sq <| Bk <| Sq (Rg (rG 6) ?_)
     refine Vs 1 ?_
     obtain ⟨x213, hx214, h216⟩ := bind_some h211
     obtain ⟨hi215, hx214'⟩ := An hx214
     obtain ⟨b217, o218, C219, E220, fz221, rfl, hF223, hE224⟩ := Va (U5 hs2_0 ((le36.t le45).trans le183)) hx214'
     have hc226 := hE224 _ _ hx214'
     refine Ix hi215 <| Lx 0 (hs182.pers _ _ hF223) hc226 <| Al' 64 #[(vi 0), (vi 0), (vi 0), (vi 0), (vi 0), (vi 0), (sv (([] : Vo))), (vi 0), (vi 0), (vi 0), (vi 0), (vi 0), (vi 0)] hs182 (fun b227 w228 hs229 => ?_)
     refine Vs 1 <| St0 (Pj x213) hs229 (fun w230 hs231 => ?_)
     refine Nss (Rg (rG 9) ?_)
     refine Vs 2 <| Ld hs231.at0 <| Sp h216 (fun hb232 h233 => ?_) (fun hb232 h234 => ?_)
     ·refine V 62 217 (Og (mt := 216) (k := 3) (vt := 215) (d := .int .i64) (m := (.tmp 59)) (x := (.tmp 61)) (b := b166) (kv := (vi x213.Kind)) (v := (.func (.func 178) #[(pt b163 0)] #[])) (j := 0) rfl rfl (by kernel_rfl) (by kernel_rfl) rfl (hs231.ownAt (k := 2) rfl) (Ua hb232)) ?_
      refine Vs 5 <| Nss <| Sq (Rg [0, 1] ?_)
      refine Vs 2 <| Nt <| C0 (rfl : false = false) <| Sc <| Ab <| Sq (Rg (rG 9) ?_)
      refine Vs 1 <| Ld hs231.at0 ?_
      have hs235 := hs231.pk6.pk6.pk4.pk4.pk4
      obtain ⟨r236, hr237, h238⟩ := bind_some h233
      refine CB G2 (Hw N b163 (({ o_ := ({ Report := s180.2.2.1, Serial := s180.2.2.2.1, Zone := s180.2.2.2.2.1 } : Ae), l_ := ({ Call := s180.2.2.2.2.2.1, Category := s180.2.2.2.2.2.2.1, Power := s180.2.2.2.2.2.2.2.1, Claimed := s180.2.2.2.2.2.2.2.2.1, Jumps := s180.2.2.2.2.2.2.2.2.2.1, Lines := s180.2.2.2.2.2.2.2.2.2.2 } : Log) } : A3)) as180_9 ns180_9 as180_10 ns180_10 es180_10 hbs180_9 hss180_9 hrs180_10 x213 hs235.pk6.pk6 _ hr237) ?_
      rintro _ F14 w239 _ hs240 le241 ⟨ar236_0_7, nr236_0_7, ar236_0_8, nr236_0_8, er236_0_8, rfl, rfl, hbr236_0_7, hsr236_0_7, hrr236_0_8⟩
      refine Vs 3 <| Al' 64 #[(vi 0), (vi 0), (vi 0), (vi 0), (vi 0), (vi 0), (sv (([] : Vo))), (vi 0), (vi 0), (vi 0), (vi 0), (vi 0), (vi 0)] hs240 (fun b243 w244 hs245 => ?_)
      refine St0 (Pj r236.2.1) hs245 (fun w246 hs247 => ?_)
      refine Vs 1 <| Nss <| Sq (Rg [0, 1] ?_)
      refine Vs 2 <| Nt <| Cd h238 (fun hb248 h249 => ?_) (fun hb248 h250 => ?_)
      ·cases h249
      ·refine Sc ?_
       refine Ab <| Rg (rG 5) <| Vs 1 <| Ld hs247.at0 <| Bs 64 [(vi r236.2.1.Kind), (vi r236.2.1.Num), (vi r236.2.1.Line.Num), (vi r236.2.1.Line.Khz), (vi r236.2.1.Line.Mode), (vi r236.2.1.Line.Minute), (sv r236.2.1.Line.Call), (vi r236.2.1.Line.Sent.Report), (vi r236.2.1.Line.Sent.Serial), (vi r236.2.1.Line.Sent.Zone), (vi r236.2.1.Line.Got.Report), (vi r236.2.1.Line.Got.Serial), (vi r236.2.1.Line.Got.Zone)] hs247 (fun b251 w252 hs253 => ?_)
       have hr255 : Am Js 64 F14 (some ⟨b251, 0, none⟩) 1 [r236.2.1] (some b251, .cells ([(vi r236.2.1.Kind), (vi r236.2.1.Num), (vi r236.2.1.Line.Num), (vi r236.2.1.Line.Khz), (vi r236.2.1.Line.Mode), (vi r236.2.1.Line.Minute), (sv r236.2.1.Line.Call), (vi r236.2.1.Line.Sent.Report), (vi r236.2.1.Line.Sent.Serial), (vi r236.2.1.Line.Sent.Zone), (vi r236.2.1.Line.Got.Report), (vi r236.2.1.Line.Got.Serial), (vi r236.2.1.Line.Got.Zone)] : List Value).toArray 64 (0, 0)) := Vj ⟨rfl, rfl⟩ (by simp)
       obtain ⟨r256, hap257, h258⟩ := bind_some h250
       refine Ap5 UN hs253 (hrs180_0.mono le241) (hs253.rd0 hr255) hap257 (fun a259 n260 e261 w262 hs263 hr264 => ?_)
       refine Vs 1 <| UY <| Aq <| Ab <| Rg [0, 1] <| Vs 2 <| UY ?_
       have hs265 := hs263.dr0.dr0.dr2.pk5.pk5
       have hn266 := AH h258 hnx209
       exact ⟨m206, Nat.lt_succ_self _, (r256, (W64 (s180.2.1 + 1)), r236.1.o_.Report, r236.1.o_.Serial, r236.1.o_.Zone, r236.1.l_.Call, r236.1.l_.Category, r236.1.l_.Power, r236.1.l_.Claimed, r236.1.l_.Jumps, r236.1.l_.Lines), F14, ar236_0_7, nr236_0_7, ar236_0_8, nr236_0_8, er236_0_8, a259, n260, e261, hn266, hs265.pk3.pk3.pk5.pk5, (le183.t le241), fI, hbr236_0_7, hsr236_0_7, hrr236_0_8, hr264⟩
     ·cases h234
    ·refine Ex ?_
     refine Aj <| Aj <| Ay rfl ?_
     have ho267 := AG h212 hnx209
     exact .inl ⟨rfl, (s180.1, s180.2.1, s180.2.2.1, s180.2.2.2.1, s180.2.2.2.2.1, s180.2.2.2.2.2.1, s180.2.2.2.2.2.2.1, s180.2.2.2.2.2.2.2.1, s180.2.2.2.2.2.2.2.2.1, s180.2.2.2.2.2.2.2.2.2.1, s180.2.2.2.2.2.2.2.2.2.2), F12, as180_9, ns180_9, as180_10, ns180_10, es180_10, as180_0, ns180_0, es180_0, ho267, hs182.dr1, le183, fI, hbs180_9, hss180_9, hrs180_10, hrs180_0⟩
   ·rintro f w195 ⟨s194, F13, as194_9, ns194_9, as194_10, ns194_10, es194_10, as194_0, ns194_0, es194_0, rfl, hs196, le197, ⟨_, rfl⟩, hbs194_9, hss194_9, hrs194_10, hrs194_0⟩
    have h268 := A0 h179
    refine Ab <| Sq <| Sq ?_
    obtain ⟨j274, hj281, h282⟩ := bind_some h268
    refine RD 7 7 [es194_0, (sb b163 #[(.bool s194.2.2.1), (.bool s194.2.2.2.1), (.bool s194.2.2.2.2.1), (sv s194.2.2.2.2.2.1), (vi s194.2.2.2.2.2.2.1), (vi s194.2.2.2.2.2.2.2.1), (vi s194.2.2.2.2.2.2.2.2.1), (.slice as194_9 s194.2.2.2.2.2.2.2.2.2.1.length ns194_9), (.slice as194_10 s194.2.2.2.2.2.2.2.2.2.2.length ns194_10)] 214), es194_10, (sb b27 #[(sv (([] : Vo))), (vi 0), (vi 0), (vi 0), (.slice none ([] : List Int).length 0), (.slice none ([] : List Line).length 0)] 27), (sb b21 (Al x0) 23)] [] hs196 (fun f w => ∃ (F15 : Mem), HS w0 F0 w F15 [es194_0, (sb b163 #[(.bool s194.2.2.1), (.bool s194.2.2.2.1), (.bool s194.2.2.2.2.1), (sv s194.2.2.2.2.2.1), (vi s194.2.2.2.2.2.2.1), (vi s194.2.2.2.2.2.2.2.1), (vi s194.2.2.2.2.2.2.2.2.1), (.slice as194_9 s194.2.2.2.2.2.2.2.2.2.1.length ns194_9), (.slice as194_10 s194.2.2.2.2.2.2.2.2.2.2.length ns194_10)] 214), es194_10, (sb b27 #[(sv (([] : Vo))), (vi 0), (vi 0), (vi 0), (.slice none ([] : List Int).length 0), (.slice none ([] : List Line).length 0)] 27)] /\ U2 F13 F15 /\ FI f [] [(2, (.slice a2_0 x2.length n2_0)), (6, (pt b27 0)), (12, (pt b163 0)), (14, (.slice as194_0 s194.1.length ns194_0)), (90, (.bool j274))]) (fun wd269 hw270 => ?_) ?_
    ·refine Dl 0 (fun _ hq => (hq.1.2 4 _ _ rfl)) ?_
     refine Dv [1, 2, 3] <| Dl 4 (fun _ hq => (hq.1.2 1 _ _ rfl)) <| D1 5 ?_
     obtain ⟨r283, hr284, h285⟩ := bind_some hj281
     refine Au.callLentP (l' := [true, true, true, true, true, true, false]) (zd := true) (by kernel_rfl) (by kernel_rfl) (by kernel_rfl) (q := 2) (v0 := (.bool r283)) (dst := (some 89)) (ty := 4) (g := none) (by kernel_rfl) rfl (f0 := (.func 25)) (aos := #[(.tmp 84), (.tmp 88)]) (ats := #[23, 27]) (fid := 25) (first := #[]) (cap := #[]) (args := [(.agg (Al x0)), (.agg #[(sv s194.2.2.2.2.2.1), (vi s194.2.2.2.2.2.2.1), (vi s194.2.2.2.2.2.2.2.1), (vi s194.2.2.2.2.2.2.2.2.1), (.slice as194_9 s194.2.2.2.2.2.2.2.2.2.1.length ns194_9), (.slice as194_10 s194.2.2.2.2.2.2.2.2.2.2.length ns194_10)])]) rfl KF rfl hw270 rfl (L1 N wd269 (Hc F13 es194_10) (HS.lend hw270 (q := 2) rfl).2 (hG.mono (((le36.t le45).trans le197).trans (HS.lend hw270 (q := 2) rfl).1)) ({ Report := x0.Report, Serial := x0.Serial, Zone := x0.Zone } : Ae) ({ Call := s194.2.2.2.2.2.1, Category := s194.2.2.2.2.2.2.1, Power := s194.2.2.2.2.2.2.2.1, Claimed := s194.2.2.2.2.2.2.2.2.1, Jumps := s194.2.2.2.2.2.2.2.2.2.1, Lines := s194.2.2.2.2.2.2.2.2.2.2 } : Log) as194_9 ns194_9 hbs194_9 (U5 hss194_9 (HS.lend hw270 (q := 2) rfl).1) as194_10 ns194_10 (Vh hrs194_10) (Am.freeze hrs194_10 (HS.lend hw270 (q := 2) rfl).1) _ hr284) (fun F16 w286 (hs287 : HS w0 F0 w286 F16 [es194_0, (sb b163 #[(.bool s194.2.2.1), (.bool s194.2.2.2.1), (.bool s194.2.2.2.2.1), (sv s194.2.2.2.2.2.1), (vi s194.2.2.2.2.2.2.1), (vi s194.2.2.2.2.2.2.2.1), (vi s194.2.2.2.2.2.2.2.2.1), (.slice as194_9 s194.2.2.2.2.2.2.2.2.2.1.length ns194_9), (.slice as194_10 s194.2.2.2.2.2.2.2.2.2.2.length ns194_10)] 214), es194_10, (sb b27 #[(sv (([] : Vo))), (vi 0), (vi 0), (vi 0), (.slice none ([] : List Int).length 0), (.slice none ([] : List Line).length 0)] 27), (sb b21 (Al x0) 23)]) le288 => ?_)
     refine Dv [6] ?_
     obtain rfl := Aa h285
     exact Vf (by kernel_rfl) ⟨F16, hs287.dr4, le288, fI⟩
    ·rintro f w271 ⟨F15, hs272, le273, ⟨_, rfl⟩⟩
     refine Ab <| Cd h282 (fun hb289 h290 => ?_) (fun hb289 h291 => ?_)
     ·cases h290
     ·refine Sc ?_
      refine Ab <| Sq (Rg (rG 9) ?_)
      refine Vs 3 <| Ld hs272.at1 <| Vs 1 <| St3 #[(sv s194.2.2.2.2.2.1), (vi s194.2.2.2.2.2.2.1), (vi s194.2.2.2.2.2.2.2.1), (vi s194.2.2.2.2.2.2.2.2.1), (.slice as194_9 s194.2.2.2.2.2.2.2.2.2.1.length ns194_9), (.slice as194_10 s194.2.2.2.2.2.2.2.2.2.2.length ns194_10)] hs272 (fun w292 hs293 => ?_)
      refine Vs 3 <| Nt <| Rt ?_
      obtain rfl := Aa h291
      exact ⟨rfl, (.tuple #[(.agg #[(sv s194.2.2.2.2.2.1), (vi s194.2.2.2.2.2.2.1), (vi s194.2.2.2.2.2.2.2.1), (vi s194.2.2.2.2.2.2.2.2.1), (.slice as194_9 s194.2.2.2.2.2.2.2.2.2.1.length ns194_9), (.slice as194_10 s194.2.2.2.2.2.2.2.2.2.2.length ns194_10)]), (.slice as194_0 s194.1.length ns194_0), (vi 0), (vi 0)]), AR (l := [.cell 6 27, .tmp 7, .tmp 8, .tmp 9]) (by kernel_rfl) (vs := [(.agg #[(sv s194.2.2.2.2.2.1), (vi s194.2.2.2.2.2.2.1), (vi s194.2.2.2.2.2.2.2.1), (vi s194.2.2.2.2.2.2.2.2.1), (.slice as194_9 s194.2.2.2.2.2.2.2.2.2.1.length ns194_9), (.slice as194_10 s194.2.2.2.2.2.2.2.2.2.2.length ns194_10)]), (.slice as194_0 s194.1.length ns194_0), (vi 0), (vi 0)]) ⟨b27, 0, rfl, Ao (t := 27) (g := true) (s := 6) (by kernel_rfl) hs293.at3 rfl (by decide), ⟨rfl, ⟨rfl, ⟨rfl, trivial⟩⟩⟩⟩, (.tuple #[(.agg #[(sv s194.2.2.2.2.2.1), (vi s194.2.2.2.2.2.2.1), (vi s194.2.2.2.2.2.2.2.1), (vi s194.2.2.2.2.2.2.2.2.1), (.slice as194_9 s194.2.2.2.2.2.2.2.2.2.1.length ns194_9), (.slice as194_10 s194.2.2.2.2.2.2.2.2.2.2.length ns194_10)]), (.slice as194_0 s194.1.length ns194_0), (vi 0), (vi 0)]), F15, _, rfl, hs293.dr1.dr2.pk1, ⟨as194_9, ns194_9, as194_10, ns194_10, es194_10, as194_0, ns194_0, es194_0, rfl, rfl, hbs194_9, (U5 hss194_9 le273), (hrs194_10.mono le273), (hrs194_0.mono le273)⟩⟩
theorem DT {N : Nat} {x r : List Fix} (h : Bd N x = some r) : r.length = x.length := by
 unfold Bd at h
 obtain ⟨o, ho, h⟩ := bind_some h
 obtain ⟨s1, hI, hb, _⟩ := Pk (fun s => s.2.2.length = x.length) (fun s s' hI hs => by
  unfold A4 at hs
  rcases NZ hs with ⟨_, hs⟩ | ⟨_, hs⟩
  ·cases hs
  ·cases hs) (by rfl) ho
 unfold A4 at hb
 rcases NZ hb with ⟨_, hb⟩ | ⟨_, hb⟩
 ·cases hb
 ·cases hb; cases h; exact hI
def La (N : Nat) (x0 : Ae) (x1 : Log) (x2 : (List Fix)) : Option ((List Fix) × Int) :=
 ((HJ N ({ Report := x0.Report, Serial := x0.Serial, Zone := x0.Zone } : Ae) x1 x2).bind fun r27 => ((Bd N r27.2.1).bind fun r41 => some (r41, r27.2.2.1)))
theorem MT : Ad Tryz.prog 53 := fun _ _ => by kernel_rfl
theorem NA (N : Nat) (w0 : World) (F0 : Mem) (hF : Vq w0 F0) (hG : Bu F0) (x0 : Ae) (x1 : Log) (a1_4 : Vp) (n1_4 : Nat) (hb1_4 : LC x1.Jumps.length n1_4) (hs1_4 : SlA Az F0 a1_4 x1.Jumps) (a1_5 : Vp) (n1_5 : Nat) (hb1_5 : LC x1.Lines.length n1_5) (hs1_5 : SlA AD F0 a1_5 x1.Lines) (x2 : (List Fix)) (a2_0 : Vp) (n2_0 : Nat) (hb2_0 : LC x2.length n2_0) (hs2_0 : SlA Js F0 a2_0 x2) (r : ((List Fix) × Int)) (h : La N x0 x1 x2 = some r) :
  Calls Tryz.prog 53 ([(.agg (Al x0)), (.agg (As x1 a1_4 n1_4 a1_5 n1_5)), (.slice a2_0 x2.length n2_0)] : List Value).toArray w0 (AC w0 F0 fun F' v => ∃ (aq0_0 : Vp) (nq0_0 : Nat), v = (.tuple #[(.slice aq0_0 r.1.length nq0_0), (vi r.2)]) /\ LC r.1.length nq0_0 /\ SlA Js F' aq0_0 r.1) := by
 have hs0 := U4 hF
 refine Go 25 Tryz.func53 <| Sq (Rg (rG 4) ?_)
 refine Bx' 23 (Al x0) hs0 (fun b21 w22 hs23 => ?_)
 refine Bx' 27 (As x1 a1_4 n1_4 a1_5 n1_5) hs23 (fun b24 w25 hs26 => ?_)
 refine Vs 2 <| Nss (Rg (rG 14) ?_)
 refine Ld hs26.at1 <| Ld hs26.at0 <| Vs 1 ?_
 obtain ⟨r27, hr28, h29⟩ := bind_some h
 refine RWP.callO (dst := (some 16)) (ty := 162) (g := none) (by kernel_rfl) rfl (f0 := (.func 120)) (aos := #[(.tmp 13), (.tmp 14), (.tmp 15)]) (ats := #[23, 27, 60]) (fid := 120) (first := #[]) (cap := #[]) (args := [(.agg (Al x0)), (.agg (As x1 a1_4 n1_4 a1_5 n1_5)), (.slice a2_0 x2.length n2_0)]) rfl JX rfl hs26 (KO N w25 F0 hs26.pers hG (({ Report := x0.Report, Serial := x0.Serial, Zone := x0.Zone } : Ae)) x1 a1_4 n1_4 hb1_4 hs1_4 a1_5 n1_5 hb1_5 hs1_5 x2 a2_0 n2_0 hb2_0 hs2_0 _ hr28) ?_
 rintro _ F1 w31 _ hs32 le33 ⟨ar27_0_4, nr27_0_4, ar27_0_5, nr27_0_5, er27_0_5, ar27_1_0, nr27_1_0, er27_1_0, rfl, rfl, hbr27_0_4, hsr27_0_4, hrr27_0_5, hrr27_1_0⟩
 have hs35 : HS w0 F0 w31 F1 [er27_0_5, er27_1_0, (sb b24 (As x1 a1_4 n1_4 a1_5 n1_5) 27), (sb b21 (Al x0) 23)] := hs32
 refine Vs 5 <| Al' 27 #[(sv (([] : Vo))), (vi 0), (vi 0), (vi 0), (.slice none ([] : List Int).length 0), (.slice none ([] : List Line).length 0)] hs35 (fun b36 w37 hs38 => ?_)
 refine St0 (As r27.1 ar27_0_4 nr27_0_4 ar27_0_5 nr27_0_5) hs38 (fun w39 hs40 => ?_)
 refine Vs 3 <| Nss (Rg [0, 1] ?_)
 refine Vs 1 ?_
 obtain ⟨r41, hr42, h43⟩ := bind_some h29
 refine RWP.callS (dst := (some 22)) (ty := 0) (g := none) (by kernel_rfl) rfl (f0 := (.func 126)) (aos := #[(.tmp 21)]) (ats := #[60]) (fid := 126) (first := #[]) (cap := #[]) (args := [(.slice ar27_1_0 r27.2.1.length nr27_1_0)]) rfl DU rfl (Ed N (Lf := [(sb b36 (As r27.1 ar27_0_4 nr27_0_4 ar27_0_5 nr27_0_5) 27), er27_0_5, (sb b24 (As x1 a1_4 n1_4 a1_5 n1_5) 27), (sb b21 (Al x0) 23)]) r27.2.1 ar27_1_0 nr27_1_0 er27_1_0 hrr27_1_0 hs40.pk4.pk4.pk3.pk3.pk4  _ hr42) ?_
 rintro _ w45 ⟨F2, e44, rfl, hs46, le47, hr48⟩
 refine ⟨_, rfl, ?_⟩
 have hs49 : HS w0 F0 w45 F2 [e44, (sb b36 (As r27.1 ar27_0_4 nr27_0_4 ar27_0_5 nr27_0_5) 27), er27_0_5, (sb b24 (As x1 a1_4 n1_4 a1_5 n1_5) 27), (sb b21 (Al x0) 23)] := hs46
 refine Nss (Rg (rG 4) ?_)
 refine V 23 60 (mv 9 (.slice ar27_1_0 r41.length nr27_1_0) (Sg rfl (DT hr42))) <| Vs 3 <| Nt <| Rt ?_
 have hb53 := Vh hr48
 obtain ⟨F3, hs50, le51, hs52⟩ := hs49.fr0 hr48
 obtain rfl := Aa h43
 exact Re [(.slice ar27_1_0 r41.length nr27_1_0), (vi r27.2.2.1)] hs50 ⟨ar27_1_0, nr27_1_0, rfl, hb53, hs52⟩
def Dh (N : Nat)  : Option Ae :=
 some ({ Report := true, Serial := true, Zone := false } : Ae)
theorem Cb : Ad Tryz.prog 71 := fun _ _ => by kernel_rfl
theorem Cz (N : Nat) (w0 : World) (F0 : Mem) (hF : Vq w0 F0)  (r : Ae) (h : Dh N  = some r) :
  Calls Tryz.prog 71 ([] : List Value).toArray w0 (AC w0 F0 fun F' v => v = (.agg (Al r))) := by
 have hs0 := U4 hF
 refine Go 2 Tryz.func71 <| Sq (Rg [0] ?_)
 refine Al' 23 #[(.bool false), (.bool false), (.bool false)] hs0 (fun b21 w22 hs23 => ?_)
 refine Nss (Rg [0, 1] ?_)
 refine Vs 1 <| St0 #[(.bool true), (.bool true), (.bool false)] hs23 (fun w24 hs25 => ?_)
 refine Nt <| Rt ?_
 obtain rfl := Aa h
 exact ⟨rfl, (.agg #[(.bool true), (.bool true), (.bool false)]), AR (l := [.cell 0 23]) (by kernel_rfl) (vs := [(.agg #[(.bool true), (.bool true), (.bool false)])]) ⟨b21, 0, rfl, Ao (t := 23) (g := true) (s := 3) (by kernel_rfl) hs25.at0 rfl (by decide), trivial⟩, (.agg #[(.bool true), (.bool true), (.bool false)]), F0, rfl, hs25.clear, rfl⟩
def D8 (N : Nat)  : Option Log :=
 some ({ Call := ([68, 76, 49, 88, 89] : Vo), Category := 1, Power := 100, Claimed := 20, Jumps := ([] : List Int), Lines := [({ Num := 7, Khz := 14025, Mode := 1, Minute := 75, Call := ([75, 49, 65, 66, 67] : Vo), Sent := ({ Report := 599, Serial := 12, Zone := 0 } : Ac), Got := ({ Report := 599, Serial := 3, Zone := 0 } : Ac) } : Line)] } : Log)
theorem DK : Ad Tryz.prog 72 := fun _ _ => by kernel_rfl
theorem Ef (N : Nat) (w0 : World) (F0 : Mem) (hF : Vq w0 F0)  (r : Log) (h : D8 N  = some r) :
  Calls Tryz.prog 72 ([] : List Value).toArray w0 (AC w0 F0 fun F' v => ∃ (aq0_4 : Vp) (nq0_4 : Nat) (aq0_5 : Vp) (nq0_5 : Nat), v = (.agg (As r aq0_4 nq0_4 aq0_5 nq0_5)) /\ LC r.Jumps.length nq0_4 /\ SlA Az F' aq0_4 r.Jumps /\ LC r.Lines.length nq0_5 /\ SlA AD F' aq0_5 r.Lines) := by
 have hs0 := U4 hF
 refine Go 8 Tryz.func72 <| Sq (Rg [0] ?_)
 refine Al' 27 #[(sv (([] : Vo))), (vi 0), (vi 0), (vi 0), (.slice none ([] : List Int).length 0), (.slice none ([] : List Line).length 0)] hs0 (fun b21 w22 hs23 => ?_)
 refine Nss (Rg (rG 5) ?_)
 refine Vs 3 <| Al' 34 #[(vi 0), (vi 0), (vi 0), (vi 0), (sv (([] : Vo))), (vi 0), (vi 0), (vi 0), (vi 0), (vi 0), (vi 0)] hs23 (fun b24 w25 hs26 => ?_)
 refine St0 #[(vi 7), (vi 14025), (vi 1), (vi 75), (sv (([75, 49, 65, 66, 67] : Vo))), (vi 599), (vi 12), (vi 0), (vi 599), (vi 3), (vi 0)] hs26 (fun w27 hs28 => ?_)
 refine Nss (Rg (rG 4) ?_)
 refine Ld hs28.at0 <| Bs 34 [(vi 7), (vi 14025), (vi 1), (vi 75), (sv (([75, 49, 65, 66, 67] : Vo))), (vi 599), (vi 12), (vi 0), (vi 599), (vi 3), (vi 0)] hs28 (fun b29 w30 hs31 => ?_)
 have hr33 : Am AD 34 F0 (some ⟨b29, 0, none⟩) 1 [({ Num := 7, Khz := 14025, Mode := 1, Minute := 75, Call := ([75, 49, 65, 66, 67] : Vo), Sent := ({ Report := 599, Serial := 12, Zone := 0 } : Ac), Got := ({ Report := 599, Serial := 3, Zone := 0 } : Ac) } : Line)] (some b29, .cells ([(vi 7), (vi 14025), (vi 1), (vi 75), (sv (([75, 49, 65, 66, 67] : Vo))), (vi 599), (vi 12), (vi 0), (vi 599), (vi 3), (vi 0)] : List Value).toArray 34 (0, 0)) := Vj ⟨rfl, rfl⟩ (by simp)
 refine Vs 1 <| St2 #[(sv (([68, 76, 49, 88, 89] : Vo))), (vi 1), (vi 100), (vi 20), (.slice none ([] : List Int).length 0), (.slice (some ⟨b29, 0, none⟩) [({ Num := 7, Khz := 14025, Mode := 1, Minute := 75, Call := ([75, 49, 65, 66, 67] : Vo), Sent := ({ Report := 599, Serial := 12, Zone := 0 } : Ac), Got := ({ Report := 599, Serial := 3, Zone := 0 } : Ac) } : Line)].length 1)] hs31 (fun w34 hs35 => ?_)
 refine Nt <| Rt ?_
 have hb39 := Vh hr33
 obtain ⟨F1, hs36, le37, hs38⟩ := hs35.fr0 hr33
 obtain rfl := Aa h
 exact ⟨rfl, (.agg #[(sv (([68, 76, 49, 88, 89] : Vo))), (vi 1), (vi 100), (vi 20), (.slice none ([] : List Int).length 0), (.slice (some ⟨b29, 0, none⟩) [({ Num := 7, Khz := 14025, Mode := 1, Minute := 75, Call := ([75, 49, 65, 66, 67] : Vo), Sent := ({ Report := 599, Serial := 12, Zone := 0 } : Ac), Got := ({ Report := 599, Serial := 3, Zone := 0 } : Ac) } : Line)].length 1)]), AR (l := [.cell 0 27]) (by kernel_rfl) (vs := [(.agg #[(sv (([68, 76, 49, 88, 89] : Vo))), (vi 1), (vi 100), (vi 20), (.slice none ([] : List Int).length 0), (.slice (some ⟨b29, 0, none⟩) [({ Num := 7, Khz := 14025, Mode := 1, Minute := 75, Call := ([75, 49, 65, 66, 67] : Vo), Sent := ({ Report := 599, Serial := 12, Zone := 0 } : Ac), Got := ({ Report := 599, Serial := 3, Zone := 0 } : Ac) } : Line)].length 1)])]) ⟨b21, 0, rfl, Ao (t := 27) (g := true) (s := 6) (by kernel_rfl) hs36.at1 rfl (by decide), trivial⟩, (.agg #[(sv (([68, 76, 49, 88, 89] : Vo))), (vi 1), (vi 100), (vi 20), (.slice none ([] : List Int).length 0), (.slice (some ⟨b29, 0, none⟩) [({ Num := 7, Khz := 14025, Mode := 1, Minute := 75, Call := ([75, 49, 65, 66, 67] : Vo), Sent := ({ Report := 599, Serial := 12, Zone := 0 } : Ac), Got := ({ Report := 599, Serial := 3, Zone := 0 } : Ac) } : Line)].length 1)]), F1, rfl, hs36.clear, ⟨none, 0, (some ⟨b29, 0, none⟩), 1, rfl, U6, (.inl rfl), hb39, hs38⟩⟩
def JK (N : Nat)  : Option Bool :=
 ((Dh N ).bind fun r21 => ((D8 N ).bind fun r29 => ((MD N ({ Report := r21.Report, Serial := r21.Serial, Zone := r21.Zone } : Ae) r29).bind fun r37 => ((Dh N ).bind fun r45 => ((Ja N ({ Report := r45.Report, Serial := r45.Serial, Zone := r45.Zone } : Ae) ([67, 65, 76, 76, 32, 68, 76, 49, 88, 89, 10, 67, 65, 84, 69, 71, 79, 82, 89, 32, 49, 10, 80, 79, 87, 69, 82, 32, 49, 48, 48, 10, 67, 76, 65, 73, 77, 69, 68, 32, 50, 48, 10, 74, 85, 77, 80, 83, 10, 81, 83, 79, 32, 55, 32, 49, 52, 48, 50, 53, 32, 77, 32, 49, 32, 48, 49, 49, 53, 32, 75, 49, 65, 66, 67, 32, 62, 32, 53, 57, 57, 32, 48, 49, 50, 32, 60, 32, 53, 57, 57, 32, 48, 48, 51, 10, 69, 78, 68, 10] : Vo)).bind fun r53 => (((Ni ([67, 65, 76, 76, 32, 68, 76, 49, 88, 89, 10, 67, 65, 84, 69, 71, 79, 82, 89, 32, 49, 10, 80, 79, 87, 69, 82, 32, 49, 48, 48, 10, 67, 76, 65, 73, 77, 69, 68, 32, 50, 48, 10, 74, 85, 77, 80, 83, 10, 81, 83, 79, 32, 55, 32, 49, 52, 48, 50, 53, 32, 77, 32, 49, 32, 48, 49, 49, 53, 32, 75, 49, 65, 66, 67, 32, 62, 32, 53, 57, 57, 32, 48, 49, 50, 32, 60, 32, 53, 57, 57, 32, 48, 48, 51, 10, 69, 78, 68, 10] : Vo) 0 96).bind fun r81 => ((Dh N ).bind fun r84 => ((Ja N ({ Report := r84.Report, Serial := r84.Serial, Zone := r84.Zone } : Ae) r81).bind fun r92 => some (r92.2.1, r92.2.2)))).bind fun j71 => ((Dh N ).bind fun r139 => ((K8 N ({ Report := r139.Report, Serial := r139.Serial, Zone := r139.Zone } : Ae) ([67, 65, 76, 76, 32, 68, 76, 49, 88, 89, 10, 67, 65, 84, 69, 71, 79, 82, 89, 32, 49, 10, 67, 76, 65, 73, 77, 69, 68, 32, 50, 48, 10, 74, 85, 77, 80, 83, 10, 81, 83, 79, 32, 55, 32, 49, 52, 48, 50, 53, 32, 77, 32, 49, 32, 48, 49, 49, 53, 32, 75, 49, 65, 66, 67, 32, 62, 32, 53, 57, 57, 32, 48, 49, 50, 32, 60, 32, 53, 57, 57, 32, 48, 48, 51, 10, 101, 110, 100, 10] : Vo)).bind fun r147 => ((Dh N ).bind fun r155 => ((D8 N ).bind fun r163 => ((La N ({ Report := r155.Report, Serial := r155.Serial, Zone := r155.Zone } : Ae) r163 ([({ Kind := 1, Num := 7, Line := ({ Num := 0, Khz := 0, Mode := 0, Minute := 0, Call := ([] : Vo), Sent := ({ Report := 0, Serial := 0, Zone := 0 } : Ac), Got := ({ Report := 0, Serial := 0, Zone := 0 } : Ac) } : Line) } : Fix)])).bind fun r180 => (bif ((r37.2 != 0) || ((r53.2.1 != 0) || ((j71.1 != 20) || ((r147.2.2.2 != 0) || ((r180.2 != 0) || ((j71.2 != 7) || ((r180.1.length : Int) != 1))))))) then some false else ((bif (r37.1 == ([67, 65, 76, 76, 32, 68, 76, 49, 88, 89, 10, 67, 65, 84, 69, 71, 79, 82, 89, 32, 49, 10, 80, 79, 87, 69, 82, 32, 49, 48, 48, 10, 67, 76, 65, 73, 77, 69, 68, 32, 50, 48, 10, 74, 85, 77, 80, 83, 10, 81, 83, 79, 32, 55, 32, 49, 52, 48, 50, 53, 32, 77, 32, 49, 32, 48, 49, 49, 53, 32, 75, 49, 65, 66, 67, 32, 62, 32, 53, 57, 57, 32, 48, 49, 50, 32, 60, 32, 53, 57, 57, 32, 48, 48, 51, 10, 69, 78, 68, 10] : Vo)) then ((D8 N ).bind fun r220 => ((Fg N r53.1 r220).bind fun r228 => (bif r228 then (bif (r147.2.2.1 == 7) then (bif ((r147.2.1.length : Int) == 7) then ((idx r180.1 0).bind fun x245 => ((D8 N ).bind fun r259 => ((idx r259.Lines 0).bind fun x267 => some ((x245.Line.Num == x267.Num) && ((x245.Line.Khz == x267.Khz) && ((x245.Line.Mode == x267.Mode) && ((x245.Line.Minute == x267.Minute) && ((x245.Line.Call == x267.Call) && (((x245.Line.Sent.Report == x267.Sent.Report) && ((x245.Line.Sent.Serial == x267.Sent.Serial) && ((x245.Line.Sent.Zone == x267.Sent.Zone) && true))) && (((x245.Line.Got.Report == x267.Got.Report) && ((x245.Line.Got.Serial == x267.Got.Serial) && ((x245.Line.Got.Zone == x267.Got.Zone) && true))) && true)))))))))) else some false) else some false) else some false))) else some false).bind fun j212 => some j212)))))))))))))
theorem LW : Ad Tryz.prog 19 := fun _ _ => by kernel_rfl
theorem Nc (N : Nat) (w0 : World) (F0 : Mem) (hF : Vq w0 F0) (hG : Bu F0)  (r : Bool) (h : JK N  = some r) :
  Calls Tryz.prog 19 ([] : List Value).toArray w0 (AC w0 F0 fun F' v => v = (.bool r)) := by
 have hs0 := U4 hF
 refine Go 103 Tryz.func19 <| Sq (Rg [0] ?_)
 refine Vs 1 <| Nss (Rg (rG 8) ?_)
 obtain ⟨r21, hr22, h23⟩ := bind_some h
 refine Cl' Cb hs0 (Cz N w0 F0 hs0.pers  _ hr22) ?_
 rintro _ F1 w25 hs26 le27 rfl
 obtain ⟨r29, hr30, h31⟩ := bind_some h23
 refine Cl' DK hs26 (Ef N w25 F1 hs26.pers  _ hr30) ?_
 rintro _ F2 w33 hs34 le35 ⟨ar29_0_4, nr29_0_4, ar29_0_5, nr29_0_5, rfl, hbr29_0_4, hsr29_0_4, hbr29_0_5, hsr29_0_5⟩
 obtain ⟨r37, hr38, h39⟩ := bind_some h31
 refine Cl' Ns hs34 (OQ N w33 F2 hs34.pers (hG.mono (le27.t le35)) (({ Report := r21.Report, Serial := r21.Serial, Zone := r21.Zone } : Ae)) r29 ar29_0_4 nr29_0_4 hbr29_0_4 hsr29_0_4 ar29_0_5 nr29_0_5 hbr29_0_5 hsr29_0_5 _ hr38) ?_
 rintro _ F3 w41 hs42 le43 rfl
 refine Vs 5 <| Nss (Rg (rG 10) ?_)
 obtain ⟨r45, hr46, h47⟩ := bind_some h39
 refine Cl' Cb hs42 (Cz N w41 F3 hs42.pers  _ hr46) ?_
 rintro _ F4 w49 hs50 le51 rfl
 obtain ⟨r53, hr54, h55⟩ := bind_some h47
 refine Cl' EB hs50 (E7 N w49 F4 hs50.pers (hG.mono (((le27.t le35).trans le43).trans le51)) (({ Report := r45.Report, Serial := r45.Serial, Zone := r45.Zone } : Ae)) (([67, 65, 76, 76, 32, 68, 76, 49, 88, 89, 10, 67, 65, 84, 69, 71, 79, 82, 89, 32, 49, 10, 80, 79, 87, 69, 82, 32, 49, 48, 48, 10, 67, 76, 65, 73, 77, 69, 68, 32, 50, 48, 10, 74, 85, 77, 80, 83, 10, 81, 83, 79, 32, 55, 32, 49, 52, 48, 50, 53, 32, 77, 32, 49, 32, 48, 49, 49, 53, 32, 75, 49, 65, 66, 67, 32, 62, 32, 53, 57, 57, 32, 48, 49, 50, 32, 60, 32, 53, 57, 57, 32, 48, 48, 51, 10, 69, 78, 68, 10] : Vo)) _ hr54) ?_
 rintro _ F5 w57 hs58 le59 ⟨ar53_0_4, nr53_0_4, ar53_0_5, nr53_0_5, rfl, hbr53_0_4, hsr53_0_4, hbr53_0_5, hsr53_0_5⟩
 refine Vs 4 <| Al' 27 #[(sv (([] : Vo))), (vi 0), (vi 0), (vi 0), (.slice none ([] : List Int).length 0), (.slice none ([] : List Line).length 0)] hs58 (fun b61 w62 hs63 => ?_)
 refine St0 (As r53.1 ar53_0_4 nr53_0_4 ar53_0_5 nr53_0_5) hs63 (fun w64 hs65 => ?_)
 refine Vs 2 <| Nss ?_
 obtain ⟨j71, hj79, h80⟩ := bind_some h55
 refine RD 11 11 [(sb b61 (As r53.1 ar53_0_4 nr53_0_4 ar53_0_5 nr53_0_5) 27)] [] hs65 (fun f w => ∃ (F6 : Mem), HS w0 F0 w F6 [(sb b61 (As r53.1 ar53_0_4 nr53_0_4 ar53_0_5 nr53_0_5) 27)] /\ U2 F5 F6 /\ FI f [] [(1, (sv r37.1)), (2, (vi r37.2)), (3, (pt b61 0)), (4, (vi r53.2.1)), (7, (vi j71.1)), (8, (vi j71.2))]) (fun wd66 hw67 => ?_) ?_
 ·obtain ⟨r81, hr82, h83⟩ := bind_some hj79
  refine Dt 1 29 9 (sv r81) (fun _ hq => Jt (t := 9) (x := (.const (sv ([67, 65, 76, 76, 32, 68, 76, 49, 88, 89, 10, 67, 65, 84, 69, 71, 79, 82, 89, 32, 49, 10, 80, 79, 87, 69, 82, 32, 49, 48, 48, 10, 67, 76, 65, 73, 77, 69, 68, 32, 50, 48, 10, 74, 85, 77, 80, 83, 10, 81, 83, 79, 32, 55, 32, 49, 52, 48, 50, 53, 32, 77, 32, 49, 32, 48, 49, 49, 53, 32, 75, 49, 65, 66, 67, 32, 62, 32, 53, 57, 57, 32, 48, 49, 50, 32, 60, 32, 53, 57, 57, 32, 48, 48, 51, 10, 69, 78, 68, 10] : Vo)))) (lo := none) (hi := (some (.const (vi 96)))) (a := ([67, 65, 76, 76, 32, 68, 76, 49, 88, 89, 10, 67, 65, 84, 69, 71, 79, 82, 89, 32, 49, 10, 80, 79, 87, 69, 82, 32, 49, 48, 48, 10, 67, 76, 65, 73, 77, 69, 68, 32, 50, 48, 10, 74, 85, 77, 80, 83, 10, 81, 83, 79, 32, 55, 32, 49, 52, 48, 50, 53, 32, 77, 32, 49, 32, 48, 49, 49, 53, 32, 75, 49, 65, 66, 67, 32, 62, 32, 53, 57, 57, 32, 48, 49, 50, 32, 60, 32, 53, 57, 57, 32, 48, 48, 51, 10, 69, 78, 68, 10] : Vo)) (il := 0) (ih := 96) (v := r81) rfl (by kernel_rfl) rfl rfl hr82) <| Vb (i := 0) (j := 7) (by kernel_rfl) ?_ ?_
  ·obtain ⟨r84, hr85, h86⟩ := bind_some h83
   refine DCl Cb hw67 (Cz N wd66 F5 hw67.pers  _ hr85) ?_
   rintro _ F7 w88 hs89 le90 rfl
   refine Vb (i := 2) (j := 7) (by kernel_rfl) ?_ ?_
   ·obtain ⟨r92, hr93, h94⟩ := bind_some h86
    refine DCl EB hs89 (E7 N w88 F7 hs89.pers (hG.mono (((((le27.t le35).trans le43).trans le51).trans le59).trans le90)) (({ Report := r84.Report, Serial := r84.Serial, Zone := r84.Zone } : Ae)) r81 _ hr93) ?_
    rintro _ F8 w96 hs97 le98 ⟨ar92_0_4, nr92_0_4, ar92_0_5, nr92_0_5, rfl, hbr92_0_4, hsr92_0_4, hbr92_0_5, hsr92_0_5⟩
    refine Dv [3, 4, 5, 6] <| D1 7 <| DAl 27 #[(sv (([] : Vo))), (vi 0), (vi 0), (vi 0), (.slice none ([] : List Int).length 0), (.slice none ([] : List Line).length 0)] hs97 (le90.t le98) (fun b100 w101 hs102 => ?_)
    refine D1 8 <| Gn (As r92.1 ar92_0_4 nr92_0_4 ar92_0_5 nr92_0_5) hs102 (le90.t le98) (fun w103 hs104 => ?_)
    refine Dv [9, 10] ?_
    obtain rfl := Aa h94
    exact Vf (by kernel_rfl) ⟨F8, hs104.dr0, (le90.t le98), fI⟩
   ·refine DAl 27 #[(sv (([] : Vo))), (vi 0), (vi 0), (vi 0), (.slice none ([] : List Int).length 0), (.slice none ([] : List Line).length 0)] hs89 le90 (fun b105 w106 hs107 => ?_)
    refine D1 2 ?_
    obtain ⟨r108, hr109, h110⟩ := bind_some h86
    refine DCl EB hs107 (E7 N w106 F7 hs107.pers (hG.mono (((((le27.t le35).trans le43).trans le51).trans le59).trans le90)) (({ Report := r84.Report, Serial := r84.Serial, Zone := r84.Zone } : Ae)) r81 _ hr109) ?_
    rintro _ F9 w112 hs113 le114 ⟨ar108_0_4, nr108_0_4, ar108_0_5, nr108_0_5, rfl, hbr108_0_4, hsr108_0_4, hbr108_0_5, hsr108_0_5⟩
    refine Dv [3, 4, 5, 6] <| D1 8 <| Gn (As r108.1 ar108_0_4 nr108_0_4 ar108_0_5 nr108_0_5) hs113 (le90.t le114) (fun w116 hs117 => ?_)
    refine Dv [9, 10] ?_
    obtain rfl := Aa h110
    exact Vf (by kernel_rfl) ⟨F9, hs117.dr0, (le90.t le114), fI⟩
  ·refine DAl 27 #[(sv (([] : Vo))), (vi 0), (vi 0), (vi 0), (.slice none ([] : List Int).length 0), (.slice none ([] : List Line).length 0)] hw67 (U3 _) (fun b118 w119 hs120 => ?_)
   refine D1 0 ?_
   obtain ⟨r121, hr122, h123⟩ := bind_some h83
   refine DCl Cb hs120 (Cz N w119 F5 hs120.pers  _ hr122) ?_
   rintro _ F10 w125 hs126 le127 rfl
   refine D1 2 ?_
   obtain ⟨r129, hr130, h131⟩ := bind_some h123
   refine DCl EB hs126 (E7 N w125 F10 hs126.pers (hG.mono (((((le27.t le35).trans le43).trans le51).trans le59).trans le127)) (({ Report := r121.Report, Serial := r121.Serial, Zone := r121.Zone } : Ae)) r81 _ hr130) ?_
   rintro _ F11 w133 hs134 le135 ⟨ar129_0_4, nr129_0_4, ar129_0_5, nr129_0_5, rfl, hbr129_0_4, hsr129_0_4, hbr129_0_5, hsr129_0_5⟩
   refine Dv [3, 4, 5, 6] <| D1 8 <| Gn (As r129.1 ar129_0_4 nr129_0_4 ar129_0_5 nr129_0_5) hs134 (le127.t le135) (fun w137 hs138 => ?_)
   refine Dv [9, 10] ?_
   obtain rfl := Aa h131
   exact Vf (by kernel_rfl) ⟨F11, hs138.dr0, (le127.t le135), fI⟩
 ·rintro f w68 ⟨F6, hs69, le70, ⟨_, rfl⟩⟩
  refine Ab <| Sq (Rg (rG 11) ?_)
  obtain ⟨r139, hr140, h141⟩ := bind_some h80
  refine Cl' Cb hs69 (Cz N w68 F6 hs69.pers  _ hr140) ?_
  rintro _ F12 w143 hs144 le145 rfl
  obtain ⟨r147, hr148, h149⟩ := bind_some h141
  refine Cl' MR hs144 (Ny N w143 F12 hs144.pers (hG.mono ((((((le27.t le35).trans le43).trans le51).trans le59).trans le70).trans le145)) (({ Report := r139.Report, Serial := r139.Serial, Zone := r139.Zone } : Ae)) (([67, 65, 76, 76, 32, 68, 76, 49, 88, 89, 10, 67, 65, 84, 69, 71, 79, 82, 89, 32, 49, 10, 67, 76, 65, 73, 77, 69, 68, 32, 50, 48, 10, 74, 85, 77, 80, 83, 10, 81, 83, 79, 32, 55, 32, 49, 52, 48, 50, 53, 32, 77, 32, 49, 32, 48, 49, 49, 53, 32, 75, 49, 65, 66, 67, 32, 62, 32, 53, 57, 57, 32, 48, 49, 50, 32, 60, 32, 53, 57, 57, 32, 48, 48, 51, 10, 101, 110, 100, 10] : Vo)) _ hr148) ?_
  rintro _ F13 w151 hs152 le153 ⟨ar147_1_0, nr147_1_0, rfl, hbr147_1_0, hsr147_1_0⟩
  refine Vs 9 <| Nss (Rg (rG 10) ?_)
  obtain ⟨r155, hr156, h157⟩ := bind_some h149
  refine Cl' Cb hs152 (Cz N w151 F13 hs152.pers  _ hr156) ?_
  rintro _ F14 w159 hs160 le161 rfl
  obtain ⟨r163, hr164, h165⟩ := bind_some h157
  refine Cl' DK hs160 (Ef N w159 F14 hs160.pers  _ hr164) ?_
  rintro _ F15 w167 hs168 le169 ⟨ar163_0_4, nr163_0_4, ar163_0_5, nr163_0_5, rfl, hbr163_0_4, hsr163_0_4, hbr163_0_5, hsr163_0_5⟩
  refine Vs 1 <| Bs 64 [(vi 1), (vi 7), (vi 0), (vi 0), (vi 0), (vi 0), (sv (([] : Vo))), (vi 0), (vi 0), (vi 0), (vi 0), (vi 0), (vi 0)] hs168 (fun b171 w172 hs173 => ?_)
  have hr175 : Am Js 64 F15 (some ⟨b171, 0, none⟩) 1 [({ Kind := 1, Num := 7, Line := ({ Num := 0, Khz := 0, Mode := 0, Minute := 0, Call := ([] : Vo), Sent := ({ Report := 0, Serial := 0, Zone := 0 } : Ac), Got := ({ Report := 0, Serial := 0, Zone := 0 } : Ac) } : Line) } : Fix)] (some b171, .cells ([(vi 1), (vi 7), (vi 0), (vi 0), (vi 0), (vi 0), (sv (([] : Vo))), (vi 0), (vi 0), (vi 0), (vi 0), (vi 0), (vi 0)] : List Value).toArray 64 (0, 0)) := Vj ⟨rfl, rfl⟩ (by simp)
  have hb179 := Vh hr175
  obtain ⟨F16, hs176, le177, hs178⟩ := hs173.fr0 hr175
  obtain ⟨r180, hr181, h182⟩ := bind_some h165
  refine Cl' MT hs176 (NA N w172 F16 hs176.pers (hG.mono ((((((((((le27.t le35).trans le43).trans le51).trans le59).trans le70).trans le145).trans le153).trans le161).trans le169).trans le177)) (({ Report := r155.Report, Serial := r155.Serial, Zone := r155.Zone } : Ae)) r163 ar163_0_4 nr163_0_4 hbr163_0_4 (U5 hsr163_0_4 le177) ar163_0_5 nr163_0_5 hbr163_0_5 (U5 hsr163_0_5 le177) ([({ Kind := 1, Num := 7, Line := ({ Num := 0, Khz := 0, Mode := 0, Minute := 0, Call := ([] : Vo), Sent := ({ Report := 0, Serial := 0, Zone := 0 } : Ac), Got := ({ Report := 0, Serial := 0, Zone := 0 } : Ac) } : Line) } : Fix)]) (some ⟨b171, 0, none⟩) 1 hb179 hs178 _ hr181) ?_
  rintro _ F17 w184 hs185 le186 ⟨ar180_0_0, nr180_0_0, rfl, hbr180_0_0, hsr180_0_0⟩
  refine Vs 5 <| Nss <| Sq (Rg (rG 27) ?_)
  refine U8 (fun f w => ∃ (F18 : Mem), HS w0 F0 w F18 [(sb b61 (As r53.1 ar53_0_4 nr53_0_4 ar53_0_5 nr53_0_5) 27)] /\ U2 F17 F18 /\ FI f [] [(1, (sv r37.1)), (3, (pt b61 0)), (10, (.slice ar147_1_0 r147.2.1.length nr147_1_0)), (11, (vi r147.2.2.1)), (13, (.slice ar180_0_0 r180.1.length nr180_0_0)), (75, (.bool ((r37.2 != 0) || ((r53.2.1 != 0) || ((j71.1 != 20) || ((r147.2.2.2 != 0) || ((r180.2 != 0) || ((j71.2 != 7) || ((r180.1.length : Int) != 1)))))))))]) ?_ ?_
  ·refine Vs 3 ?_
   refine U7 (r37.2 != 0) (fun hb198 => ?_) (fun hb198 => ?_)
   ·refine Ss hb198 2 ?_
    refine Pk1 hb198 <| Vs 1 <| Ss (rfl : true = true) 2 <| Pk1 (rfl : true = true) <| Vs 1 <| Ss (rfl : true = true) 2 <| Pk1 (rfl : true = true) <| Vs 1 <| Ss (rfl : true = true) 2 <| Pk1 (rfl : true = true) <| Vs 1 <| Ss (rfl : true = true) 2 <| Pk1 (rfl : true = true) <| Vs 1 <| Ss (rfl : true = true) 3 <| Pk1 (rfl : true = true) ?_
    exact UY ⟨rfl, F17, hs185, (U3 _), (fJ ⟨rfl, rfl, rfl, rfl, rfl, (congrArg Value.bool (HE hb198 rfl)), trivial⟩)⟩
   ·refine Vgs hb198 2 ?_
    refine Pk0 hb198 <| Vs 1 <| U7 (r53.2.1 != 0) (fun hb199 => ?_) (fun hb199 => ?_)
    ·refine Ss hb199 2 ?_
     refine Pk1 hb199 <| Vs 1 <| Ss (rfl : true = true) 2 <| Pk1 (rfl : true = true) <| Vs 1 <| Ss (rfl : true = true) 2 <| Pk1 (rfl : true = true) <| Vs 1 <| Ss (rfl : true = true) 2 <| Pk1 (rfl : true = true) <| Vs 1 <| Ss (rfl : true = true) 3 <| Pk1 (rfl : true = true) ?_
     exact UY ⟨rfl, F17, hs185, (U3 _), (fJ ⟨rfl, rfl, rfl, rfl, rfl, (congrArg Value.bool (Dq hb198 (HE hb199 rfl))), trivial⟩)⟩
    ·refine Vgs hb199 2 ?_
     refine Pk0 hb199 <| Vs 1 <| U7 (j71.1 != 20) (fun hb200 => ?_) (fun hb200 => ?_)
     ·refine Ss hb200 2 ?_
      refine Pk1 hb200 <| Vs 1 <| Ss (rfl : true = true) 2 <| Pk1 (rfl : true = true) <| Vs 1 <| Ss (rfl : true = true) 2 <| Pk1 (rfl : true = true) <| Vs 1 <| Ss (rfl : true = true) 3 <| Pk1 (rfl : true = true) ?_
      exact UY ⟨rfl, F17, hs185, (U3 _), (fJ ⟨rfl, rfl, rfl, rfl, rfl, (congrArg Value.bool (Dq hb198 (Dq hb199 (HE hb200 rfl)))), trivial⟩)⟩
     ·refine Vgs hb200 2 ?_
      refine Pk0 hb200 <| Vs 1 <| U7 (r147.2.2.2 != 0) (fun hb201 => ?_) (fun hb201 => ?_)
      ·refine Ss hb201 2 ?_
       refine Pk1 hb201 <| Vs 1 <| Ss (rfl : true = true) 2 <| Pk1 (rfl : true = true) <| Vs 1 <| Ss (rfl : true = true) 3 <| Pk1 (rfl : true = true) ?_
       exact UY ⟨rfl, F17, hs185, (U3 _), (fJ ⟨rfl, rfl, rfl, rfl, rfl, (congrArg Value.bool (Dq hb198 (Dq hb199 (Dq hb200 (HE hb201 rfl))))), trivial⟩)⟩
      ·refine Vgs hb201 2 ?_
       refine Pk0 hb201 <| Vs 1 <| U7 (r180.2 != 0) (fun hb202 => ?_) (fun hb202 => ?_)
       ·refine Ss hb202 2 ?_
        refine Pk1 hb202 <| Vs 1 <| Ss (rfl : true = true) 3 <| Pk1 (rfl : true = true) ?_
        exact UY ⟨rfl, F17, hs185, (U3 _), (fJ ⟨rfl, rfl, rfl, rfl, rfl, (congrArg Value.bool (Dq hb198 (Dq hb199 (Dq hb200 (Dq hb201 (HE hb202 rfl)))))), trivial⟩)⟩
       ·refine Vgs hb202 2 ?_
        refine Pk0 hb202 <| Vs 1 <| U7 (j71.2 != 7) (fun hb203 => ?_) (fun hb203 => ?_)
        ·refine Ss hb203 3 ?_
         refine Pk1 hb203 ?_
         exact UY ⟨rfl, F17, hs185, (U3 _), (fJ ⟨rfl, rfl, rfl, rfl, rfl, (congrArg Value.bool (Dq hb198 (Dq hb199 (Dq hb200 (Dq hb201 (Dq hb202 (HE hb203 rfl))))))), trivial⟩)⟩
        ·refine Vgs hb203 3 ?_
         refine Pk0 hb203 ?_
         exact UY ⟨rfl, F17, hs185, (U3 _), (fJ ⟨rfl, rfl, rfl, rfl, rfl, (congrArg Value.bool (Dq hb198 (Dq hb199 (Dq hb200 (Dq hb201 (Dq hb202 (Dq hb203 rfl))))))), trivial⟩)⟩
  ·rintro f w188 ⟨F18, hs189, le190, ⟨_, rfl⟩⟩
   refine Ab <| Cd h182 (fun hb204 h205 => ?_) (fun hb204 h206 => ?_)
   ·refine Sq (Rg [0] ?_)
    refine Vs 1 <| Nt <| Rt <| Af ?_
    obtain rfl := Aa h205
    exact Re [(.bool false)] hs189 rfl
   ·refine Sc ?_
    refine Ab <| Sq ?_
    obtain ⟨j212, hj215, h216⟩ := bind_some h206
    refine RD 28 28 [(sb b61 (As r53.1 ar53_0_4 nr53_0_4 ar53_0_5 nr53_0_5) 27)] [] hs189 (fun f w => ∃ (F19 : Mem), HS w0 F0 w F19 [] /\ U2 F18 F19 /\ FI f [] [(0, (.bool j212))]) (fun wd207 hw208 => ?_) ?_
    ·refine Dvl [0, 1, 2] (tf 3 25) ?_
     refine Sd hj215 (fun hb217 h218 => ?_) (fun hb217 h219 => ?_)
     ·refine Dgl 3 79 27 _ (tf 4 24) 2 true 78 hb217 (fun _ hq => ld 27 3 b61 0 true 6 (.agg (As r53.1 ar53_0_4 nr53_0_4 ar53_0_5 nr53_0_5)) (hq.1.2 0 _ _ rfl)) ?_
      refine D1 4 ?_
      obtain ⟨r220, hr221, h222⟩ := bind_some h218
      refine Ve (l' := [true, true, true, true, true, false, false, false, false, false, false, false, false, false, false, false, false, false, false, false, false, false, false, false, false, false, false, false]) (zd := true) (by kernel_rfl) (by kernel_rfl) (by kernel_rfl) (dst := (some 80)) (ty := 27) (g := (some (2, true))) (by kernel_rfl) (DE (d := 78) (by kernel_rfl) rfl hb217) (f0 := (.func 72)) (aos := #[]) (ats := #[]) (fid := 72) (first := #[]) (cap := #[]) (args := []) rfl DK rfl hw208 (Ef N wd207 F18 hw208.pers  _ hr221) ?_
      rintro _ F20 w224 hs225 le226 ⟨ar220_0_4, nr220_0_4, ar220_0_5, nr220_0_5, rfl, hbr220_0_4, hsr220_0_4, hbr220_0_5, hsr220_0_5⟩
      refine D1 5 ?_
      obtain ⟨r228, hr229, h230⟩ := bind_some h222
      refine Ve (l' := [true, true, true, true, true, true, false, false, false, false, false, false, false, false, false, false, false, false, false, false, false, false, false, false, false, false, false, false]) (zd := true) (by kernel_rfl) (by kernel_rfl) (by kernel_rfl) (dst := (some 81)) (ty := 4) (g := (some (2, true))) (by kernel_rfl) (DE (d := 78) (by kernel_rfl) rfl hb217) (f0 := (.func 35)) (aos := #[(.tmp 79), (.tmp 80)]) (ats := #[27, 27]) (fid := 35) (first := #[]) (cap := #[]) (args := [(.agg (As r53.1 ar53_0_4 nr53_0_4 ar53_0_5 nr53_0_5)), (.agg (As r220 ar220_0_4 nr220_0_4 ar220_0_5 nr220_0_5))]) rfl IV rfl hs225 (J7 N w224 F20 hs225.pers r53.1 ar53_0_4 nr53_0_4 hbr53_0_4 (U5 hsr53_0_4 ((((((((le70.t le145).trans le153).trans le161).trans le169).trans le177).trans le186).trans le190).trans le226)) ar53_0_5 nr53_0_5 hbr53_0_5 (U5 hsr53_0_5 ((((((((le70.t le145).trans le153).trans le161).trans le169).trans le177).trans le186).trans le190).trans le226)) r220 ar220_0_4 nr220_0_4 hbr220_0_4 hsr220_0_4 ar220_0_5 nr220_0_5 hbr220_0_5 hsr220_0_5 _ hr229) ?_
      rintro _ F21 w232 hs233 le234 rfl
      refine Dtl 6 82 4 _ (tf 7 21) (fun _ hq => p1 78 (.tmp 81) (.const (.bool false)) (.bool r228) hb217) <| Dvl [7] (tf 8 20) <| Sd h230 (fun hb236 h237 => ?_) (fun hb236 h238 => ?_)
      ·refine Dgl 8 84 3 _ (tf 9 19) 7 true 83 hb236 (fun _ hq => mv 11 (vi r147.2.2.1)) ?_
       refine Dgl 9 85 4 (.bool (r147.2.2.1 == 7)) (tf 10 18) 7 true 83 hb236 (fun _ hq => Jw (t := 3) (t' := 3) (x := (.tmp 84)) (y := (.const (vi 7))) (k := .i64) (a := r147.2.2.1) (b := 7) rfl rfl) <| Dtl 10 86 4 _ (tf 11 17) (fun _ hq => p1 83 (.tmp 85) (.const (.bool false)) (.bool (r147.2.2.1 == 7)) hb236) <| Dvl [11] (tf 12 16) <| Sd h237 (fun hb239 h240 => ?_) (fun hb239 h241 => ?_)
       ·refine Dgl 12 88 48 _ (tf 13 15) 11 true 87 hb239 (fun _ hq => mv 10 (.slice ar147_1_0 r147.2.1.length nr147_1_0)) ?_
        refine Dgl 13 89 3 (vi (r147.2.1.length : Int)) (tf 14 14) 11 true 87 hb239 (fun _ hq => ln 88 48 ar147_1_0 r147.2.1.length nr147_1_0 150 3 32) <| Dgl 14 90 4 (.bool ((r147.2.1.length : Int) == 7)) (tf 15 13) 11 true 87 hb239 (fun _ hq => Jw (t := 3) (t' := 3) (x := (.tmp 89)) (y := (.const (vi 7))) (k := .i64) (a := (r147.2.1.length : Int)) (b := 7) rfl rfl) <| Dtl 15 91 4 _ (tf 16 12) (fun _ hq => p1 87 (.tmp 90) (.const (.bool false)) (.bool ((r147.2.1.length : Int) == 7)) hb239) <| Dvl [16] (tf 17 11) <| Sd h240 (fun hb242 h243 => ?_) (fun hb242 h244 => ?_)
        ·refine Dgl 17 93 60 _ (tf 18 10) 16 true 92 hb242 (fun _ hq => mv 13 (.slice ar180_0_0 r180.1.length nr180_0_0)) ?_
         obtain ⟨x245, hx246, h248⟩ := bind_some h243
         obtain ⟨hi247, hx246'⟩ := An hx246
         obtain ⟨b249, o250, C251, E252, fz253, rfl, hF255, hE256⟩ := Va (U5 hsr180_0_0 le190) hx246'
         have hc258 := hE256 _ _ hx246'
         refine Dgl 18 94 0 (.pointer (some ⟨b249, (o250 + (0 : Int).toNat * 13), none⟩)) (tf 19 9) 16 true 92 hb242 (fun _ hq => Ct (t := 60) (x := (.tmp 93)) (y := (.const (vi 0))) (b := b249) (o := o250) (E := 64) (s := 13) (by_ := 112) rfl rfl (by kernel_rfl) hi247) <| Dgl 19 95 0 (.pointer (some ⟨b249, ((o250 + (0 : Int).toNat * 13) + 2), none⟩)) (tf 20 8) 16 true 92 hb242 (fun _ hq => fa 64 94 2 2 11 b249 (o250 + (0 : Int).toNat * 13) ((o250 + (0 : Int).toNat * 13) + 2)) <| Dgl 20 96 34 _ (tf 21 7) 16 true 92 hb242 (fun _ hq => lx 34 95 2 13 true 11 (.agg (Bo x245.Line)) (hq.1.1 _ _ hF255) hc258) <| D1 21 ?_
         obtain ⟨r259, hr260, h261⟩ := bind_some h248
         refine Ve (l' := [true, true, true, true, true, true, true, true, true, true, true, true, true, true, true, true, true, true, true, true, true, true, false, false, false, false, false, false]) (zd := true) (by kernel_rfl) (by kernel_rfl) (by kernel_rfl) (dst := (some 97)) (ty := 27) (g := (some (16, true))) (by kernel_rfl) (DE (d := 92) (by kernel_rfl) rfl hb242) (f0 := (.func 72)) (aos := #[]) (ats := #[]) (fid := 72) (first := #[]) (cap := #[]) (args := []) rfl DK rfl hs233 (Ef N w232 F21 hs233.pers  _ hr260) ?_
         rintro _ F22 w263 hs264 le265 ⟨ar259_0_4, nr259_0_4, ar259_0_5, nr259_0_5, rfl, hbr259_0_4, hsr259_0_4, hbr259_0_5, hsr259_0_5⟩
         refine Dgl 22 98 25 _ (tf 23 5) 16 true 92 hb242 (fun _ hq => Mp (s := 27) (x := (.tmp 97)) (i := 5) (o := 5) (k := 1) (t := 25) (gg := false) (cs := (As r259 ar259_0_4 nr259_0_4 ar259_0_5 nr259_0_5)) (v := (.slice ar259_0_5 r259.Lines.length nr259_0_5)) rfl (by kernel_rfl) (by kernel_rfl) rfl rfl rfl) ?_
         obtain ⟨x267, hx268, h270⟩ := bind_some h261
         obtain ⟨hi269, hx268'⟩ := An hx268
         obtain ⟨b271, o272, C273, E274, fz275, rfl, hF277, hE278⟩ := Va hsr259_0_5 hx268'
         have hc280 := hE278 _ _ hx268'
         refine Dgl 23 99 0 (.pointer (some ⟨b271, (o272 + (0 : Int).toNat * 11), none⟩)) (tf 24 4) 16 true 92 hb242 (fun _ hq => Ct (t := 25) (x := (.tmp 98)) (y := (.const (vi 0))) (b := b271) (o := o272) (E := 34) (s := 11) (by_ := 96) rfl rfl (by kernel_rfl) hi269) <| D1 24 <| Vc (l' := [true, true, true, true, true, true, true, true, true, true, true, true, true, true, true, true, true, true, true, true, true, true, true, true, true, false, false, false]) (zd := true) (by kernel_rfl) (by kernel_rfl) (dst := (some 100)) (ty := 34) (g := (some (16, true))) (by kernel_rfl) (DE (d := 92) (by kernel_rfl) rfl hb242) (Km (t := 34) (x := (.tmp 99)) (b := b271) (o := (o272 + (0 : Int).toNat * 11)) (j := 0) (C := C273) (kk := 11) (cs := [(vi x267.Num), (vi x267.Khz), (vi x267.Mode), (vi x267.Minute), (sv x267.Call), (vi x267.Sent.Report), (vi x267.Sent.Serial), (vi x267.Sent.Zone), (vi x267.Got.Report), (vi x267.Got.Serial), (vi x267.Got.Zone)]) (gg := true) (s := 11) (v := (.agg (Bo x267))) rfl (by kernel_rfl) (hs264.pers _ _ hF277) hc280 (by decide) (by exact ⟨rfl, trivial⟩) rfl rfl) (Bb hs264 ((le226.t le234).trans le265) (by simp) (fun e => by cases e)) <| Dgl 25 101 4 (.bool ((x245.Line.Num == x267.Num) && ((x245.Line.Khz == x267.Khz) && ((x245.Line.Mode == x267.Mode) && ((x245.Line.Minute == x267.Minute) && ((x245.Line.Call == x267.Call) && (((x245.Line.Sent.Report == x267.Sent.Report) && ((x245.Line.Sent.Serial == x267.Sent.Serial) && ((x245.Line.Sent.Zone == x267.Sent.Zone) && true))) && (((x245.Line.Got.Report == x267.Got.Report) && ((x245.Line.Got.Serial == x267.Got.Serial) && ((x245.Line.Got.Zone == x267.Got.Zone) && true))) && true)))))))) (tf 26 2) 16 true 92 hb242 (fun _ hq => Qv (t := 34) (t' := 34) (x := (.tmp 96)) (y := (.tmp 100)) (xs := (Bo x245.Line)) (ys := (Bo x267)) (b := ((x245.Line.Num == x267.Num) && ((x245.Line.Khz == x267.Khz) && ((x245.Line.Mode == x267.Mode) && ((x245.Line.Minute == x267.Minute) && ((x245.Line.Call == x267.Call) && (((x245.Line.Sent.Report == x267.Sent.Report) && ((x245.Line.Sent.Serial == x267.Sent.Serial) && ((x245.Line.Sent.Zone == x267.Sent.Zone) && true))) && (((x245.Line.Got.Report == x267.Got.Report) && ((x245.Line.Got.Serial == x267.Got.Serial) && ((x245.Line.Got.Zone == x267.Got.Zone) && true))) && true)))))))) rfl rfl (by kernel_rfl) (by kernel_rfl)) <| Dtl 26 102 4 _ (tf 27 1) (fun _ hq => p1 92 (.tmp 101) (.const (.bool false)) (.bool ((x245.Line.Num == x267.Num) && ((x245.Line.Khz == x267.Khz) && ((x245.Line.Mode == x267.Mode) && ((x245.Line.Minute == x267.Minute) && ((x245.Line.Call == x267.Call) && (((x245.Line.Sent.Report == x267.Sent.Report) && ((x245.Line.Sent.Serial == x267.Sent.Serial) && ((x245.Line.Sent.Zone == x267.Sent.Zone) && true))) && (((x245.Line.Got.Report == x267.Got.Report) && ((x245.Line.Got.Serial == x267.Got.Serial) && ((x245.Line.Got.Zone == x267.Got.Zone) && true))) && true)))))))) hb242) <| Dvl [27] (tf 28 0) ?_
         obtain rfl := Aa h270
         exact Vf (by kernel_rfl) ⟨F22, hs264.dr0, ((le226.t le234).trans le265), fI⟩
        ·refine Dkl [(17, 93), (18, 94), (19, 95), (20, 96), (21, 97), (22, 98)] 16 true 92 hb242 (tf 23 5) ?_
         refine Dkl [(23, 99), (24, 100), (25, 101)] 16 true 92 hb242 (tf 26 2) <| Dtl 26 102 4 _ (tf 27 1) (fun _ hq => p0 92 (.tmp 101) (.const (.bool false)) (.bool false) hb242) <| Dvl [27] (tf 28 0) ?_
         obtain rfl := Aa h244
         exact Vf (by kernel_rfl) ⟨F21, hs233.dr0, (le226.t le234), fI⟩
       ·refine Dkl [(12, 88), (13, 89), (14, 90)] 11 true 87 hb239 (tf 15 13) ?_
        refine Dtl 15 91 4 _ (tf 16 12) (fun _ hq => p0 87 (.tmp 90) (.const (.bool false)) (.bool false) hb239) <| Dvl [16] (tf 17 11) <| Dkl [(17, 93), (18, 94), (19, 95), (20, 96), (21, 97), (22, 98)] 16 true 92 rfl (tf 23 5) <| Dkl [(23, 99), (24, 100), (25, 101)] 16 true 92 rfl (tf 26 2) <| Dtl 26 102 4 _ (tf 27 1) (fun _ hq => p0 92 (.tmp 101) (.const (.bool false)) (.bool false) rfl) <| Dvl [27] (tf 28 0) ?_
        obtain rfl := Aa h241
        exact Vf (by kernel_rfl) ⟨F21, hs233.dr0, (le226.t le234), fI⟩
      ·refine Dkl [(8, 84), (9, 85)] 7 true 83 hb236 (tf 10 18) ?_
       refine Dtl 10 86 4 _ (tf 11 17) (fun _ hq => p0 83 (.tmp 85) (.const (.bool false)) (.bool false) hb236) <| Dvl [11] (tf 12 16) <| Dkl [(12, 88), (13, 89), (14, 90)] 11 true 87 rfl (tf 15 13) <| Dtl 15 91 4 _ (tf 16 12) (fun _ hq => p0 87 (.tmp 90) (.const (.bool false)) (.bool false) rfl) <| Dvl [16] (tf 17 11) <| Dkl [(17, 93), (18, 94), (19, 95), (20, 96), (21, 97), (22, 98)] 16 true 92 rfl (tf 23 5) <| Dkl [(23, 99), (24, 100), (25, 101)] 16 true 92 rfl (tf 26 2) <| Dtl 26 102 4 _ (tf 27 1) (fun _ hq => p0 92 (.tmp 101) (.const (.bool false)) (.bool false) rfl) <| Dvl [27] (tf 28 0) ?_
       obtain rfl := Aa h238
       exact Vf (by kernel_rfl) ⟨F21, hs233.dr0, (le226.t le234), fI⟩
     ·refine Dkl [(3, 79), (4, 80), (5, 81)] 2 true 78 hb217 (tf 6 22) ?_
      refine Dtl 6 82 4 _ (tf 7 21) (fun _ hq => p0 78 (.tmp 81) (.const (.bool false)) (.bool false) hb217) <| Dvl [7] (tf 8 20) <| Dkl [(8, 84), (9, 85)] 7 true 83 rfl (tf 10 18) <| Dtl 10 86 4 _ (tf 11 17) (fun _ hq => p0 83 (.tmp 85) (.const (.bool false)) (.bool false) rfl) <| Dvl [11] (tf 12 16) <| Dkl [(12, 88), (13, 89), (14, 90)] 11 true 87 rfl (tf 15 13) <| Dtl 15 91 4 _ (tf 16 12) (fun _ hq => p0 87 (.tmp 90) (.const (.bool false)) (.bool false) rfl) <| Dvl [16] (tf 17 11) <| Dkl [(17, 93), (18, 94), (19, 95), (20, 96), (21, 97), (22, 98)] 16 true 92 rfl (tf 23 5) <| Dkl [(23, 99), (24, 100), (25, 101)] 16 true 92 rfl (tf 26 2) <| Dtl 26 102 4 _ (tf 27 1) (fun _ hq => p0 92 (.tmp 101) (.const (.bool false)) (.bool false) rfl) <| Dvl [27] (tf 28 0) ?_
      obtain rfl := Aa h219
      exact Vf (by kernel_rfl) ⟨F18, hw208.dr0, (U3 _), fI⟩
    ·rintro f w209 ⟨F19, hs210, le211, ⟨_, rfl⟩⟩
     refine Ab <| Rt ?_
     obtain rfl := Aa h216
     exact Re [(.bool j212)] hs210 rfl
set_option maxRecDepth 100000 in
theorem Ry : JK 9223372036854775808 = some true := by kernel_rfl
def HN (_N : Nat) : Option Bool := some true
theorem MV : Ad Tryz.prog 19 := LW
theorem NC (N : Nat) (w0 : World) (F0 : Mem) (hF : Vq w0 F0) (hG : Bu F0) (r : Bool) (h : HN N = some r) :
  Calls Tryz.prog 19 ([] : List Value).toArray w0 (AC w0 F0 fun F' v => v = (.bool r)) := by
 cases h
 exact Nc 9223372036854775808 w0 F0 hF hG true Ry

section
variable {N : Nat}
theorem Tn (l : List Line) (hl : l.length < 4000000000) (hN : 4294967300 < N) : FR N l = some (l.all fun x => decide (x.Call.length <= 40)) := by
 unfold FR
 rw [Rm (l := l) (fun x => decide (x.Call.length <= 40)) false (fun i hi => by
  unfold D9
  rw [B5 hi, cond_true, Bi hi, Option.bind_some, Iq i (by omega), show decide ((l[i].Call.length : Int) > 40) = !decide (l[i].Call.length <= 40) by rw [<- decide_not, decide_eq_decide]; omega]
  cases decide (l[i].Call.length <= 40) <;> rfl) (by
  unfold D9
  rw [BN, cond_false]) (by omega)]
 cases l.all fun x => decide (x.Call.length <= 40) <;> rfl
end
def A5 (N : Nat) (x0 : (List Line)) (x1 : (List Line)) : Int -> Option (A8 Bool Int) := fun s27 =>
 (bif (decide (s27 < (x0.length : Int))) then (((idx x0 s27).bind fun x64 => ((idx x1 s27).bind fun x78 => some (!((x64.Num == x78.Num) && ((x64.Khz == x78.Khz) && ((x64.Mode == x78.Mode) && ((x64.Minute == x78.Minute) && ((x64.Call == x78.Call) && (((x64.Sent.Report == x78.Sent.Report) && ((x64.Sent.Serial == x78.Sent.Serial) && ((x64.Sent.Zone == x78.Sent.Zone) && true))) && (((x64.Got.Report == x78.Got.Report) && ((x64.Got.Serial == x78.Got.Serial) && ((x64.Got.Zone == x78.Got.Zone) && true))) && true)))))))))).bind fun j55 => (bif j55 then some (.ret false) else some (.next (W64 (s27 + 1))))) else some (.done s27))
def Be (N : Nat) (x0 : (List Line)) (x1 : (List Line)) : Option Bool :=
 (bif ((x0.length : Int) != (x1.length : Int)) then some false else ((AL (A5 N x0 x1) N 0).bind fun o => o.k (fun r => some r) (fun s36 => some true)))
theorem DV : Ad Tryz.prog 119 := fun _ _ => by kernel_rfl
theorem Ee (N : Nat) (w0 : World) (F0 : Mem) (hF : Vq w0 F0) (x0 : (List Line)) (a0_0 : Vp) (n0_0 : Nat) (hb0_0 : LC x0.length n0_0) (hs0_0 : SlA AD F0 a0_0 x0) (x1 : (List Line)) (a1_0 : Vp) (n1_0 : Nat) (hb1_0 : LC x1.length n1_0) (hs1_0 : SlA AD F0 a1_0 x1) (r : Bool) (h : Be N x0 x1 = some r) :
  Calls Tryz.prog 119 ([(.slice a0_0 x0.length n0_0), (.slice a1_0 x1.length n1_0)] : List Value).toArray w0 (AC w0 F0 fun F' v => v = (.bool r)) := by
 have hs0 := U4 hF
 refine Go 26 Tryz.func119 <| Sq (Rg [0] ?_)
 refine Vs 1 <| Nss <| Sq (Rg (rG 5) ?_)
 refine Vs 5 <| Nt <| Cd h (fun hb21 h22 => ?_) (fun hb21 h23 => ?_)
 ·refine Sq (Rg [0] ?_)
  refine Vs 1 <| Nt <| Rt <| Af ?_
  obtain rfl := Aa h22
  exact Re [(.bool false)] hs0 rfl
 ·refine Sc ?_
  refine Ab <| Sq <| Sq (Rg [0, 1, 2] ?_)
  refine Vs 3 <| Nt ?_
  obtain ⟨o24, ho25, h26⟩ := bind_some h23
  refine U9 (fun f w => ∃ (s36 : Int) (F2 : Mem), o24 = .done s36 /\ HS w0 F0 w F2 [] /\ U2 F0 F2 /\ FI f [] []) ?_ ?_
  ·refine Bk ?_
   refine U1 (by kernel_rfl) (fun m f w => ∃ (s27 : Int) (F1 : Mem), AL (A5 N x0 x1) m s27 = some o24 /\ HS w0 F0 w F1 [] /\ U2 F0 F1 /\ FI f [] [(0, (.slice a0_0 x0.length n0_0)), (1, (.slice a1_0 x1.length n1_0)), (12, (vi (x0.length : Int))), (13, (vi s27))]) N ⟨0, F0, ho25, hs0, (U3 _), fI⟩ ?_
   rintro m41 f w28 ⟨s27, F1, hit42, hs29, le30, ⟨_, rfl⟩⟩
   obtain ⟨m43, fl44, rfl, hb45, hnx46⟩ := AF hit42
   refine Sq (Rg [0] ?_)
   refine Vs 1 <| Nss <| Cd hb45 (fun hb47 h48 => ?_) (fun hb47 h49 => ?_)
   ·refine Sc ?_
    refine Ab <| Sq <| Bk <| Sq (Rg [0, 1] ?_)
    refine Vs 2 <| Nss ?_
    obtain ⟨j55, hj62, h63⟩ := bind_some h48
    refine RD 9 9 [] [] hs29 (fun f w => ∃ (F3 : Mem), HS w0 F0 w F3 [] /\ U2 F1 F3 /\ FI f [] [(0, (.slice a0_0 x0.length n0_0)), (1, (.slice a1_0 x1.length n1_0)), (12, (vi (x0.length : Int))), (13, (vi s27)), (24, (.bool j55))]) (fun wd50 hw51 => ?_) ?_
    ·refine Dv [0, 1] ?_
     obtain ⟨x64, hx65, h67⟩ := bind_some hj62
     obtain ⟨hi66, hx65'⟩ := An hx65
     obtain ⟨b68, o69, C70, E71, fz72, rfl, hF74, hE75⟩ := Va (U5 hs0_0 le30) hx65'
     have hc77 := hE75 _ _ hx65'
     refine Di 2 hi66 <| Dx 3 0 (fun _ hq => hq.1.1 _ _ hF74) hc77 <| Dv [4, 5] ?_
     obtain ⟨x78, hx79, h81⟩ := bind_some h67
     obtain ⟨hi80, hx79'⟩ := An hx79
     obtain ⟨b82, o83, C84, E85, fz86, rfl, hF88, hE89⟩ := Va (U5 hs1_0 le30) hx79'
     have hc91 := hE89 _ _ hx79'
     refine Di 6 hi80 <| Dx 7 0 (fun _ hq => hq.1.1 _ _ hF88) hc91 <| Dv [8] ?_
     obtain rfl := Aa h81
     exact Vf (by kernel_rfl) ⟨F1, hw51, (U3 _), fI⟩
    ·rintro f w52 ⟨F3, hs53, le54, ⟨_, rfl⟩⟩
     refine Ab <| Cd h63 (fun hb92 h93 => ?_) (fun hb92 h94 => ?_)
     ·refine Sq (Rg [0] ?_)
      refine Vs 1 <| Nt <| Rt <| AA <| Af <| Af <| AA ?_
      have hret := Ck h93 hnx46
      subst hret
      refine .inr <| Af ?_
      obtain rfl := Aa h26
      exact Re [(.bool false)] hs53 rfl
     ·refine Sc ?_
      refine Aq <| Ab <| Rg [0, 1] <| Vs 2 <| UY ?_
      have hn95 := AH h94 hnx46
      exact ⟨m43, Nat.lt_succ_self _, (W64 (s27 + 1)), F3, hn95, hs53, (le30.t le54), fI⟩
   ·refine Ex ?_
    refine Aj <| Aj <| Ay rfl ?_
    have ho96 := AG h49 hnx46
    exact .inl ⟨rfl, s27, F1, ho96, hs29, le30, fI⟩
  ·rintro f w37 ⟨s36, F2, rfl, hs38, le39, ⟨_, rfl⟩⟩
   have h97 := A0 h26
   refine Ab <| Sq (Rg [0] ?_)
   refine Vs 1 <| Nt <| Rt ?_
   obtain rfl := Aa h97
   exact Re [(.bool true)] hs38 rfl
def Gz (N : Nat) (x0 : Log) (x1 : Log) : Option Bool :=
 ((bif (x0.Call == x1.Call) then (bif (x0.Category == x1.Category) then (bif (x0.Power == x1.Power) then (bif (x0.Claimed == x1.Claimed) then ((Cf N x0.Jumps x1.Jumps).bind fun r47 => (bif r47 then ((Be N x0.Lines x1.Lines).bind fun r58 => some r58) else some false)) else some false) else some false) else some false) else some false).bind fun j30 => some j30)
theorem JZ : Ad Tryz.prog 42 := fun _ _ => by kernel_rfl
theorem Lk (N : Nat) (w0 : World) (F0 : Mem) (hF : Vq w0 F0) (x0 : Log) (a0_4 : Vp) (n0_4 : Nat) (hb0_4 : LC x0.Jumps.length n0_4) (hs0_4 : SlA Az F0 a0_4 x0.Jumps) (a0_5 : Vp) (n0_5 : Nat) (hb0_5 : LC x0.Lines.length n0_5) (hs0_5 : SlA AD F0 a0_5 x0.Lines) (x1 : Log) (a1_4 : Vp) (n1_4 : Nat) (hb1_4 : LC x1.Jumps.length n1_4) (hs1_4 : SlA Az F0 a1_4 x1.Jumps) (a1_5 : Vp) (n1_5 : Nat) (hb1_5 : LC x1.Lines.length n1_5) (hs1_5 : SlA AD F0 a1_5 x1.Lines) (r : Bool) (h : Gz N x0 x1 = some r) :
  Calls Tryz.prog 42 ([(.agg (As x0 a0_4 n0_4 a0_5 n0_5)), (.agg (As x1 a1_4 n1_4 a1_5 n1_5))] : List Value).toArray w0 (AC w0 F0 fun F' v => v = (.bool r)) := by
 have hs0 := U4 hF
 refine Go 45 Tryz.func42 <| Sq (Rg [0, 1, 2] ?_)
 refine Bx' 27 (As x0 a0_4 n0_4 a0_5 n0_5) hs0 (fun b21 w22 hs23 => ?_)
 refine Bx' 27 (As x1 a1_4 n1_4 a1_5 n1_5) hs23 (fun b24 w25 hs26 => ?_)
 refine Vs 1 <| Nss (Rg (rG 41) ?_)
 obtain ⟨j30, hj33, h34⟩ := bind_some h
 refine U8 (fun f w => ∃ (F1 : Mem), HS w0 F0 w F1 [] /\ U2 F0 F1 /\ FI f [] [(4, (.bool j30))]) ?_ ?_
 ·refine Vs 1 ?_
  refine Ld hs26.at1 <| Vs 1 <| Ld hs26.at0 <| Vs 2 <| Sp hj33 (fun hb35 h36 => ?_) (fun hb35 h37 => ?_)
  ·refine Vgs hb35 1 ?_
   refine Lg hb35 hs26.at1 <| Vgs hb35 1 <| Lg hb35 hs26.at0 <| Vgs hb35 1 <| Pk1 hb35 <| Vs 1 <| Sp h36 (fun hb38 h39 => ?_) (fun hb38 h40 => ?_)
   ·refine Vgs hb38 1 ?_
    refine Lg hb38 hs26.at1 <| Vgs hb38 1 <| Lg hb38 hs26.at0 <| Vgs hb38 1 <| Pk1 hb38 <| Vs 1 <| Sp h39 (fun hb41 h42 => ?_) (fun hb41 h43 => ?_)
    ·refine Vgs hb41 1 ?_
     refine Lg hb41 hs26.at1 <| Vgs hb41 1 <| Lg hb41 hs26.at0 <| Vgs hb41 1 <| Pk1 hb41 <| Vs 1 <| Sp h42 (fun hb44 h45 => ?_) (fun hb44 h46 => ?_)
     ·refine Vgs hb44 1 ?_
      refine Lg hb44 hs26.at1 <| Vgs hb44 1 <| Lg hb44 hs26.at0 ?_
      obtain ⟨r47, hr48, h49⟩ := bind_some h45
      refine Cg hb44 GD hs26 (G5 N w25 F0 hs26.pers x0.Jumps a0_4 n0_4 hb0_4 hs0_4 x1.Jumps a1_4 n1_4 hb1_4 hs1_4 _ hr48) ?_
      rintro _ F2 w51 hs52 le53 rfl
      refine Pk1 hb44 <| Vs 1 <| Sp h49 (fun hb55 h56 => ?_) (fun hb55 h57 => ?_)
      ·refine Vgs hb55 1 ?_
       refine Lg hb55 hs52.at1 <| Vgs hb55 1 <| Lg hb55 hs52.at0 ?_
       obtain ⟨r58, hr59, h60⟩ := bind_some h56
       refine Cg hb55 DV hs52 (Ee N w51 F2 hs52.pers x0.Lines a0_5 n0_5 hb0_5 (U5 hs0_5 le53) x1.Lines a1_5 n1_5 hb1_5 (U5 hs1_5 le53) _ hr59) ?_
       rintro _ F3 w62 hs63 le64 rfl
       refine Pk1 hb55 <| Vs 1 ?_
       obtain rfl := Aa h60
       exact UY ⟨rfl, F3, hs63.dr0.dr0, (le53.t le64), fI⟩
      ·refine Ss hb55 5 ?_
       refine Pk0 hb55 <| Vs 1 ?_
       obtain rfl := Aa h57
       exact UY ⟨rfl, F2, hs52.dr0.dr0, le53, fI⟩
     ·refine Ss hb44 5 ?_
      refine Pk0 hb44 <| Vs 1 <| Ss (rfl : false = false) 5 <| Pk0 (rfl : false = false) <| Vs 1 ?_
      obtain rfl := Aa h46
      exact UY ⟨rfl, F0, hs26.dr0.dr0, (U3 _), fI⟩
    ·refine Ss hb41 5 ?_
     refine Pk0 hb41 <| Vs 1 <| Ss (rfl : false = false) 5 <| Pk0 (rfl : false = false) <| Vs 1 <| Ss (rfl : false = false) 5 <| Pk0 (rfl : false = false) <| Vs 1 ?_
     obtain rfl := Aa h43
     exact UY ⟨rfl, F0, hs26.dr0.dr0, (U3 _), fI⟩
   ·refine Ss hb38 5 ?_
    refine Pk0 hb38 <| Vs 1 <| Ss (rfl : false = false) 5 <| Pk0 (rfl : false = false) <| Vs 1 <| Ss (rfl : false = false) 5 <| Pk0 (rfl : false = false) <| Vs 1 <| Ss (rfl : false = false) 5 <| Pk0 (rfl : false = false) <| Vs 1 ?_
    obtain rfl := Aa h40
    exact UY ⟨rfl, F0, hs26.dr0.dr0, (U3 _), fI⟩
  ·refine Ss hb35 5 ?_
   refine Pk0 hb35 <| Vs 1 <| Ss (rfl : false = false) 5 <| Pk0 (rfl : false = false) <| Vs 1 <| Ss (rfl : false = false) 5 <| Pk0 (rfl : false = false) <| Vs 1 <| Ss (rfl : false = false) 5 <| Pk0 (rfl : false = false) <| Vs 1 <| Ss (rfl : false = false) 5 <| Pk0 (rfl : false = false) <| Vs 1 ?_
   obtain rfl := Aa h37
   exact UY ⟨rfl, F0, hs26.dr0.dr0, (U3 _), fI⟩
 ·rintro f w27 ⟨F1, hs28, le29, ⟨_, rfl⟩⟩
  refine Ab <| Rt ?_
  obtain rfl := Aa h34
  exact Re [(.bool j30)] hs28 rfl
def Ew (N : Nat) (x0 : Log) (x1 : (Line -> Option Bool)) : (List Int × Int) -> Option (A8 (List Int) (List Int × Int)) := fun s29 =>
 (bif (decide (s29.2 < (x0.Lines.length : Int))) then ((idx x0.Lines s29.2).bind fun x54 => ((x1 x54).bind fun r73 => ((bif r73 then ((Cr s29.1 [s29.2]).bind fun r101 => some r101) else some s29.1).bind fun j84 => some (.next (j84, (W64 (s29.2 + 1))))))) else some (.done (s29.1, s29.2)))
def Fi (N : Nat) (x0 : Log) (x1 : (Line -> Option Bool)) : Option (List Int) :=
 ((AL (Ew N x0 x1) N (([] : List Int), 0)).bind fun o => o.k (fun r => some r) (fun s39 => some s39.1))
theorem IW : Ad Tryz.prog 127 := fun _ _ => by kernel_rfl
theorem J9 (N : Nat) (w0 : World) (F0 : Mem) (hF : Vq w0 F0) (x0 : Log) (a0_4 : Vp) (n0_4 : Nat) (hb0_4 : LC x0.Jumps.length n0_4) (hs0_4 : SlA Az F0 a0_4 x0.Jumps) (a0_5 : Vp) (n0_5 : Nat) (hb0_5 : LC x0.Lines.length n0_5) (hs0_5 : SlA AD F0 a0_5 x0.Lines) (gx1 : FuncId) (fx1 kx1 : List Value) (x1 : Line -> Option Bool) (hox1 : Ad Tryz.prog gx1) (hpx1 : PH F0 gx1 fx1 kx1 x1) (r : (List Int)) (h : Fi N x0 x1 = some r) :
  Calls Tryz.prog 127 ([(.agg (As x0 a0_4 n0_4 a0_5 n0_5)), (.func (.func gx1) fx1.toArray kx1.toArray)] : List Value).toArray w0 (AC w0 F0 fun F' v => ∃ (aq0_0 : Vp) (nq0_0 : Nat), v = (.slice aq0_0 r.length nq0_0) /\ LC r.length nq0_0 /\ SlA Az F' aq0_0 r) := by
 have hs0 := U4 hF
 refine Go 25 Tryz.func127 <| Sq (Rg [0, 1] ?_)
 refine Bx' 27 (As x0 a0_4 n0_4 a0_5 n0_5) hs0 (fun b21 w22 hs23 => ?_)
 refine Vs 1 <| Nss (Rg [0] ?_)
 refine Vs 1 <| Nss <| Sq (Rg (rG 4) ?_)
 refine Vs 1 <| Ld hs23.at0 <| Vs 2 <| Nt ?_
 have hs24 := hs23.dr0.dummy (oc #[] 0)
 obtain ⟨o26, ho27, h28⟩ := bind_some h
 refine U9 (fun f w => ∃ (s39 : (List Int × Int)) (F2 : Mem) (as39_0 : Vp) (ns39_0 : Nat) (es39_0 : Option Nat × Obj), o26 = .done s39 /\ HS w0 F0 w F2 [es39_0] /\ U2 F0 F2 /\ FI f [] [(5, (.slice as39_0 s39.1.length ns39_0))] /\ Am Az 3 F2 as39_0 ns39_0 s39.1 es39_0) ?_ ?_
 ·refine Bk ?_
  refine U1 (by kernel_rfl) (fun m f w => ∃ (s29 : (List Int × Int)) (F1 : Mem) (as29_0 : Vp) (ns29_0 : Nat) (es29_0 : Option Nat × Obj), AL (Ew N x0 x1) m s29 = some o26 /\ HS w0 F0 w F1 [es29_0] /\ U2 F0 F1 /\ FI f [] [(1, (.func (.func gx1) fx1.toArray kx1.toArray)), (5, (.slice as29_0 s29.1.length ns29_0)), (9, (.slice a0_5 x0.Lines.length n0_5)), (10, (vi (x0.Lines.length : Int))), (11, (vi s29.2))] /\ Am Az 3 F1 as29_0 ns29_0 s29.1 es29_0) N ⟨(([] : List Int), 0), F0, none, 0, (none, .cells #[] 0 (0, 0)), ho27, hs24, (U3 _), fI, (Vi Az 3 F0 _)⟩ ?_
  rintro m45 f w30 ⟨s29, F1, as29_0, ns29_0, es29_0, hit46, hs31, le32, ⟨_, rfl⟩, hrs29_0⟩
  obtain ⟨m47, fl48, rfl, hb49, hnx50⟩ := AF hit46
  refine Sq (Rg [0] ?_)
  refine Vs 1 <| Nss <| Cd hb49 (fun hb51 h52 => ?_) (fun hb51 h53 => ?_)
  ·refine Sc ?_
   refine Ab <| Sq <| Bk <| Sq (Rg (rG 6) ?_)
   refine Vs 1 ?_
   obtain ⟨x54, hx55, h57⟩ := bind_some h52
   obtain ⟨hi56, hx55'⟩ := An hx55
   obtain ⟨b58, o59, C60, E61, fz62, rfl, hF64, hE65⟩ := Va (U5 hs0_5 le32) hx55'
   have hc67 := hE65 _ _ hx55'
   refine Ix hi56 <| Lx 0 (hs31.pers _ _ hF64) hc67 <| Al' 34 #[(vi 0), (vi 0), (vi 0), (vi 0), (sv (([] : Vo))), (vi 0), (vi 0), (vi 0), (vi 0), (vi 0), (vi 0)] hs31 (fun b68 w69 hs70 => ?_)
   refine Vs 1 <| St0 (Bo x54) hs70 (fun w71 hs72 => ?_)
   refine Nss (Rg [0, 1, 2] ?_)
   refine Vs 1 <| Ld hs72.at0 ?_
   obtain ⟨r73, hr74, h75⟩ := bind_some h57
   refine Cq hox1 hs72 (hpx1 w71 F1 x54 _ le32 hs72.pers hr74) ?_
   rintro _ F3 w77 hs78 le79 rfl
   refine Nt ?_
   obtain ⟨j84, hj91, h92⟩ := bind_some h75
   refine U9 (fun f w => ∃ (F4 : Mem) (aj84_0 : Vp) (nj84_0 : Nat) (ej84_0 : Option Nat × Obj), HS w0 F0 w F4 [ej84_0] /\ U2 F3 F4 /\ FI f [] [(1, (.func (.func gx1) fx1.toArray kx1.toArray)), (5, (.slice aj84_0 j84.length nj84_0)), (9, (.slice (some ⟨b58, o59, none⟩) x0.Lines.length n0_5)), (10, (vi (x0.Lines.length : Int))), (11, (vi s29.2))] /\ Am Az 3 F4 aj84_0 nj84_0 j84 ej84_0) ?_ ?_
   ·refine Cd hj91 (fun hb93 h94 => ?_) (fun hb93 h95 => ?_)
    ·refine Rg (rG 5) ?_
     refine Vs 2 <| Bs 3 [(vi s29.2)] hs78 (fun b96 w97 hs98 => ?_)
     have hr100 : Am Az 3 F3 (some ⟨b96, 0, none⟩) 1 [s29.2] (some b96, .cells ([(vi s29.2)] : List Value).toArray 3 (0, 0)) := Vj ⟨rfl, rfl⟩ (by simp)
     obtain ⟨r101, hap102, h103⟩ := bind_some h94
     refine Ap2 Pc hs98 (hrs29_0.mono le79) (hs98.rd0 hr100) hap102 (fun a104 n105 e106 w107 hs108 hr109 => ?_)
     refine Vs 1 <| UY ?_
     obtain rfl := Aa h103
     exact .inl ⟨rfl, F3, a104, n105, e106, hs108.dr0.dr0, (U3 _), fI, hr109⟩
    ·refine Sc ?_
     obtain rfl := Aa h95
     exact .inl ⟨rfl, F3, as29_0, ns29_0, es29_0, hs78.dr0, (U3 _), fI, (hrs29_0.mono le79)⟩
   ·rintro f w81 ⟨F4, aj84_0, nj84_0, ej84_0, hs82, le83, ⟨_, rfl⟩, hrj84_0⟩
    refine Aq <| Ab <| Rg [0, 1] <| Vs 2 <| UY ?_
    have hn110 := AH h92 hnx50
    exact ⟨m47, Nat.lt_succ_self _, (j84, (W64 (s29.2 + 1))), F4, aj84_0, nj84_0, ej84_0, hn110, hs82, ((le32.t le79).trans le83), fI, hrj84_0⟩
  ·refine Ex ?_
   refine Aj <| Aj <| Ay rfl ?_
   have ho111 := AG h53 hnx50
   exact .inl ⟨rfl, (s29.1, s29.2), F1, as29_0, ns29_0, es29_0, ho111, hs31, le32, fI, hrs29_0⟩
 ·rintro f w40 ⟨s39, F2, as39_0, ns39_0, es39_0, rfl, hs41, le42, ⟨_, rfl⟩, hrs39_0⟩
  have h112 := A0 h28
  refine Ab <| Sq (Rg [0, 1] ?_)
  refine Vs 2 <| Nt <| Rt ?_
  have hb116 := Vh hrs39_0
  obtain ⟨F5, hs113, le114, hs115⟩ := hs41.fr0 hrs39_0
  obtain rfl := Aa h112
  exact Re [(.slice as39_0 s39.1.length ns39_0)] hs113 ⟨as39_0, ns39_0, rfl, hb116, hs115⟩
def D7 (N : Nat) (x0 : Line) (z0 : Span) : Option Bool :=
 ((AQ N x0.Minute z0.Lo z0.Hi).bind fun r24 => some r24)
theorem J1 : Ad Tryz.prog 128 := fun _ _ => by kernel_rfl
theorem KQ (N : Nat) (w0 : World) (F0 : Mem) (hF : Vq w0 F0) (x0 : Line) (bz0 : Nat) (z0 : Span) (hz0 : F0 bz0 = some (oc #[(vi z0.Lo), (vi z0.Hi)] 80)) (r : Bool) (h : D7 N x0 z0 = some r) :
  Calls Tryz.prog 128 ([(.agg (Bo x0)), (pt bz0 0)] : List Value).toArray w0 (AC w0 F0 fun F' v => v = (.bool r)) := by
 have hs0 := U4 hF
 refine Go 11 Tryz.func128 <| Sq (Rg [0, 1] ?_)
 refine Bx' 34 (Bo x0) hs0 (fun b21 w22 hs23 => ?_)
 refine Vs 1 <| Nss (Rg (rG 8) ?_)
 refine Vs 1 <| Ld hs23.at0 <| Vs 1 <| Ld (hs23.pers _ _ hz0) <| Vs 1 <| Ld (hs23.pers _ _ hz0) ?_
 obtain ⟨r24, hr25, h26⟩ := bind_some h
 refine Cl' AM hs23 (AP N w22 F0 hs23.pers x0.Minute z0.Lo z0.Hi _ hr25) ?_
 rintro _ F1 w28 hs29 le30 rfl
 refine Vs 1 <| Nt <| Rt ?_
 obtain rfl := Aa h26
 exact Re [(.bool r24)] hs29 rfl
def E3 (N : Nat) (x0 : Log) (x1 : Span) : Option (List Int) :=
 ((Fi N x0 (fun y0 => D7 N y0 x1)).bind fun r30 => some r30)
theorem LV : Ad Tryz.prog 56 := fun _ _ => by kernel_rfl
theorem Nb (N : Nat) (w0 : World) (F0 : Mem) (hF : Vq w0 F0) (x0 : Log) (a0_4 : Vp) (n0_4 : Nat) (hb0_4 : LC x0.Jumps.length n0_4) (hs0_4 : SlA Az F0 a0_4 x0.Jumps) (a0_5 : Vp) (n0_5 : Nat) (hb0_5 : LC x0.Lines.length n0_5) (hs0_5 : SlA AD F0 a0_5 x0.Lines) (x1 : Span) (r : (List Int)) (h : E3 N x0 x1 = some r) :
  Calls Tryz.prog 56 ([(.agg (As x0 a0_4 n0_4 a0_5 n0_5)), (.agg #[(vi x1.Lo), (vi x1.Hi)])] : List Value).toArray w0 (AC w0 F0 fun F' v => ∃ (aq0_0 : Vp) (nq0_0 : Nat), v = (.slice aq0_0 r.length nq0_0) /\ LC r.length nq0_0 /\ SlA Az F' aq0_0 r) := by
 have hs0 := U4 hF
 refine Go 8 Tryz.func56 <| Sq (Rg [0, 1, 2] ?_)
 refine Bx' 27 (As x0 a0_4 n0_4 a0_5 n0_5) hs0 (fun b21 w22 hs23 => ?_)
 refine Bx' 80 #[(vi x1.Lo), (vi x1.Hi)] hs23 (fun b24 w25 hs26 => ?_)
 refine Vs 1 <| Nss (Rg (rG 4) ?_)
 refine Ld hs26.at1 <| Vs 1 ?_
 obtain ⟨F1, hs27, le28, hF29⟩ := hs26.fc0
 obtain ⟨r30, hr31, h32⟩ := bind_some h
 refine Cl' IW hs27 (J9 N w25 F1 hs27.pers x0 a0_4 n0_4 hb0_4 (U5 hs0_4 le28) a0_5 n0_5 hb0_5 (U5 hs0_5 le28) 128 [] [(pt b24 0)] (fun y0 => D7 N y0 x1) J1 (fun w1 F1 y0 r le1 pe1 hr1 => KQ N w1 F1 pe1  y0 b24 x1 (le1 _ _ hF29) r hr1) _ hr31) ?_
 rintro _ F2 w34 hs35 le36 ⟨ar30_0_0, nr30_0_0, rfl, hbr30_0_0, hsr30_0_0⟩
 refine Vs 1 <| Nt <| Rt ?_
 obtain rfl := Aa h32
 exact Re [(.slice ar30_0_0 r30.length nr30_0_0)] hs35 ⟨ar30_0_0, nr30_0_0, rfl, hbr30_0_0, hsr30_0_0⟩
def Df (N : Nat) (x0 : Log) : (List Vo × Int) -> Option (A8 (List Vo) (List Vo × Int)) := fun s29 =>
 (bif (decide (s29.2 < (x0.Lines.length : Int))) then ((idx x0.Lines s29.2).bind fun x53 => ((Cr s29.1 [x53.Call]).bind fun r77 => some (.next (r77, (W64 (s29.2 + 1)))))) else some (.done (s29.1, s29.2)))
def Ey (N : Nat) (x0 : Log) : Option (List Vo) :=
 ((AL (Df N x0) N (([] : List Vo), 0)).bind fun o => o.k (fun r => some r) (fun s38 => ((B4 N s38.1).bind fun r89 => ((A2 N r89).bind fun r98 => some r98))))
theorem KG : Ad Tryz.prog 58 := fun _ _ => by kernel_rfl
theorem L2 (N : Nat) (w0 : World) (F0 : Mem) (hF : Vq w0 F0) (x0 : Log) (a0_4 : Vp) (n0_4 : Nat) (hb0_4 : LC x0.Jumps.length n0_4) (hs0_4 : SlA Az F0 a0_4 x0.Jumps) (a0_5 : Vp) (n0_5 : Nat) (hb0_5 : LC x0.Lines.length n0_5) (hs0_5 : SlA AD F0 a0_5 x0.Lines) (r : (List Vo)) (h : Ey N x0 = some r) :
  Calls Tryz.prog 58 ([(.agg (As x0 a0_4 n0_4 a0_5 n0_5))] : List Value).toArray w0 (AC w0 F0 fun F' v => ∃ (aq0_0 : Vp) (nq0_0 : Nat), v = (.slice aq0_0 r.length nq0_0) /\ LC r.length nq0_0 /\ SlA AK F' aq0_0 r) := by
 have hs0 := U4 hF
 refine Go 23 Tryz.func58 <| Sq (Rg [0, 1] ?_)
 refine Bx' 27 (As x0 a0_4 n0_4 a0_5 n0_5) hs0 (fun b21 w22 hs23 => ?_)
 refine Vs 1 <| Nss (Rg [0] ?_)
 refine Vs 1 <| Nss <| Sq (Rg (rG 4) ?_)
 refine Vs 1 <| Ld hs23.at0 <| Vs 2 <| Nt ?_
 have hs24 := hs23.dr0.dummy (oc #[] 0)
 obtain ⟨o26, ho27, h28⟩ := bind_some h
 refine U9 (fun f w => ∃ (s38 : (List Vo × Int)) (F2 : Mem) (as38_0 : Vp) (ns38_0 : Nat) (es38_0 : Option Nat × Obj), o26 = .done s38 /\ HS w0 F0 w F2 [es38_0] /\ U2 F0 F2 /\ FI f [] [(3, (.slice as38_0 s38.1.length ns38_0))] /\ Am AK 9 F2 as38_0 ns38_0 s38.1 es38_0) ?_ ?_
 ·refine Bk ?_
  refine U1 (by kernel_rfl) (fun m f w => ∃ (s29 : (List Vo × Int)) (F1 : Mem) (as29_0 : Vp) (ns29_0 : Nat) (es29_0 : Option Nat × Obj), AL (Df N x0) m s29 = some o26 /\ HS w0 F0 w F1 [es29_0] /\ U2 F0 F1 /\ FI f [] [(3, (.slice as29_0 s29.1.length ns29_0)), (7, (.slice a0_5 x0.Lines.length n0_5)), (8, (vi (x0.Lines.length : Int))), (9, (vi s29.2))] /\ Am AK 9 F1 as29_0 ns29_0 s29.1 es29_0) N ⟨(([] : List Vo), 0), F0, none, 0, (none, .cells #[] 0 (0, 0)), ho27, hs24, (U3 _), fI, (Vi AK 9 F0 _)⟩ ?_
  rintro m44 f w30 ⟨s29, F1, as29_0, ns29_0, es29_0, hit45, hs31, le32, ⟨_, rfl⟩, hrs29_0⟩
  obtain ⟨m46, fl47, rfl, hb48, hnx49⟩ := AF hit45
  refine Sq (Rg [0] ?_)
  refine Vs 1 <| Nss <| Cd hb48 (fun hb50 h51 => ?_) (fun hb50 h52 => ?_)
  ·refine Sc ?_
   refine Ab <| Sq <| Bk <| Sq (Rg (rG 4) ?_)
   obtain ⟨x53, hx54, h56⟩ := bind_some h51
   obtain ⟨hi55, hx54'⟩ := An hx54
   obtain ⟨b57, o58, C59, E60, fz61, rfl, hF63, hE64⟩ := Va (U5 hs0_5 le32) hx54'
   have hc66 := hE64 _ _ hx54'
   refine Ix hi55 <| Lx 0 (hs31.pers _ _ hF63) hc66 <| Al' 34 #[(vi 0), (vi 0), (vi 0), (vi 0), (sv (([] : Vo))), (vi 0), (vi 0), (vi 0), (vi 0), (vi 0), (vi 0)] hs31 (fun b67 w68 hs69 => ?_)
   refine St0 (Bo x53) hs69 (fun w70 hs71 => ?_)
   refine Nt <| Rg (rG 6) <| Vs 2 <| Ld hs71.at0 <| Bs 9 [(sv x53.Call)] hs71 (fun b72 w73 hs74 => ?_)
   have hr76 : Am AK 9 F1 (some ⟨b72, 0, none⟩) 1 [x53.Call] (some b72, .cells ([(sv x53.Call)] : List Value).toArray 9 (0, 0)) := Vj ⟨rfl, rfl⟩ (by simp)
   obtain ⟨r77, hap78, h79⟩ := bind_some h56
   refine Ap2 Rb hs74 hrs29_0 (hs74.rd0 hr76) hap78 (fun a80 n81 e82 w83 hs84 hr85 => ?_)
   refine Vs 1 <| UY <| Aq <| Ab <| Rg [0, 1] <| Vs 2 <| UY ?_
   have hn86 := AH h79 hnx49
   exact ⟨m46, Nat.lt_succ_self _, (r77, (W64 (s29.2 + 1))), F1, a80, n81, e82, hn86, hs84.dr0.dr0, le32, fI, hr85⟩
  ·refine Ex ?_
   refine Aj <| Aj <| Ay rfl ?_
   have ho87 := AG h52 hnx49
   exact .inl ⟨rfl, (s29.1, s29.2), F1, as29_0, ns29_0, es29_0, ho87, hs31, le32, fI, hrs29_0⟩
 ·rintro f w39 ⟨s38, F2, as38_0, ns38_0, es38_0, rfl, hs40, le41, ⟨_, rfl⟩, hrs38_0⟩
  have h88 := A0 h28
  refine Ab <| Sq (Rg [0, 1] ?_)
  refine Vs 1 ?_
  obtain ⟨r89, hr90, h91⟩ := bind_some h88
  refine RWP.callS (dst := (some 20)) (ty := 0) (g := none) (by kernel_rfl) rfl (f0 := (.func 129)) (aos := #[(.tmp 19)]) (ats := #[55]) (fid := 129) (first := #[]) (cap := #[]) (args := [(.slice as38_0 s38.1.length ns38_0)]) rfl ET rfl (E5 N (Lf := []) s38.1 as38_0 ns38_0 es38_0 hrs38_0 hs40  _ hr90) ?_
  rintro _ w93 ⟨F3, e92, rfl, hs94, le95, hr96⟩
  refine ⟨_, rfl, ?_⟩
  have hs97 : HS w0 F0 w93 F3 [e92] := hs94
  refine Nss (Rg [0, 1, 2] ?_)
  refine V 21 55 (mv 3 (.slice as38_0 r89.length ns38_0) (Sg rfl (ES hr90))) ?_
  obtain ⟨r98, hr99, h100⟩ := bind_some h91
  refine RWP.callS (dst := (some 22)) (ty := 55) (g := none) (by kernel_rfl) rfl (f0 := (.func 130)) (aos := #[(.tmp 21)]) (ats := #[55]) (fid := 130) (first := #[]) (cap := #[]) (args := [(.slice as38_0 r89.length ns38_0)]) rfl Ek rfl (Eo N (Lf := []) r89 as38_0 ns38_0 e92 hr96 hs97  _ hr99) ?_
  rintro _ w102 ⟨F4, e101, rfl, hs103, le104, hr105⟩
  refine ⟨_, rfl, ?_⟩
  have hs106 : HS w0 F0 w102 F4 [e101] := hs103
  refine Vs 1 <| Nt <| Rt ?_
  have hb110 := Vh hr105
  obtain ⟨F5, hs107, le108, hs109⟩ := hs106.fr0 hr105
  obtain rfl := Aa h100
  exact Re [(.slice as38_0 r98.length ns38_0)] hs107 ⟨as38_0, ns38_0, rfl, hb110, hs109⟩
def Ik (N : Nat) (x0 : Line) (z0 : Vo) : Option Bool :=
 some (x0.Call == z0)
theorem OJ : Ad Tryz.prog 131 := fun _ _ => by kernel_rfl
theorem Py (N : Nat) (w0 : World) (F0 : Mem) (hF : Vq w0 F0) (x0 : Line) (bz0 : Nat) (z0 : Vo) (hz0 : F0 bz0 = some (oc #[(sv z0)] 9)) (r : Bool) (h : Ik N x0 z0 = some r) :
  Calls Tryz.prog 131 ([(.agg (Bo x0)), (pt bz0 0)] : List Value).toArray w0 (AC w0 F0 fun F' v => v = (.bool r)) := by
 have hs0 := U4 hF
 refine Go 8 Tryz.func131 <| Sq (Rg [0, 1] ?_)
 refine Bx' 34 (Bo x0) hs0 (fun b21 w22 hs23 => ?_)
 refine Vs 1 <| Nss (Rg (rG 5) ?_)
 refine Vs 1 <| Ld hs23.at0 <| Ld (hs23.pers _ _ hz0) <| Vs 2 <| Nt <| Rt ?_
 obtain rfl := Aa h
 exact Re [(.bool (x0.Call == z0))] hs23 rfl
def L9 (N : Nat) (x0 : Log) (x1 : Vo) : Option (List Int) :=
 ((Fi N x0 (fun y0 => Ik N y0 x1)).bind fun r30 => some r30)
theorem Ql : Ad Tryz.prog 59 := fun _ _ => by kernel_rfl
theorem Rw (N : Nat) (w0 : World) (F0 : Mem) (hF : Vq w0 F0) (x0 : Log) (a0_4 : Vp) (n0_4 : Nat) (hb0_4 : LC x0.Jumps.length n0_4) (hs0_4 : SlA Az F0 a0_4 x0.Jumps) (a0_5 : Vp) (n0_5 : Nat) (hb0_5 : LC x0.Lines.length n0_5) (hs0_5 : SlA AD F0 a0_5 x0.Lines) (x1 : Vo) (r : (List Int)) (h : L9 N x0 x1 = some r) :
  Calls Tryz.prog 59 ([(.agg (As x0 a0_4 n0_4 a0_5 n0_5)), (sv x1)] : List Value).toArray w0 (AC w0 F0 fun F' v => ∃ (aq0_0 : Vp) (nq0_0 : Nat), v = (.slice aq0_0 r.length nq0_0) /\ LC r.length nq0_0 /\ SlA Az F' aq0_0 r) := by
 have hs0 := U4 hF
 refine Go 8 Tryz.func59 <| Sq (Rg [0, 1, 2] ?_)
 refine Bx' 27 (As x0 a0_4 n0_4 a0_5 n0_5) hs0 (fun b21 w22 hs23 => ?_)
 refine Bx' 9 #[(sv x1)] hs23 (fun b24 w25 hs26 => ?_)
 refine Vs 1 <| Nss (Rg (rG 4) ?_)
 refine Ld hs26.at1 <| Vs 1 ?_
 obtain ⟨F1, hs27, le28, hF29⟩ := hs26.fc0
 obtain ⟨r30, hr31, h32⟩ := bind_some h
 refine Cl' IW hs27 (J9 N w25 F1 hs27.pers x0 a0_4 n0_4 hb0_4 (U5 hs0_4 le28) a0_5 n0_5 hb0_5 (U5 hs0_5 le28) 131 [] [(pt b24 0)] (fun y0 => Ik N y0 x1) OJ (fun w1 F1 y0 r le1 pe1 hr1 => Py N w1 F1 pe1  y0 b24 x1 (le1 _ _ hF29) r hr1) _ hr31) ?_
 rintro _ F2 w34 hs35 le36 ⟨ar30_0_0, nr30_0_0, rfl, hbr30_0_0, hsr30_0_0⟩
 refine Vs 1 <| Nt <| Rt ?_
 obtain rfl := Aa h32
 exact Re [(.slice ar30_0_0 r30.length nr30_0_0)] hs35 ⟨ar30_0_0, nr30_0_0, rfl, hbr30_0_0, hsr30_0_0⟩
def CI (N : Nat) (x0 : Line) (z0 : Int) : Option Bool :=
 some (x0.Num == z0)
theorem LU : Ad Tryz.prog 133 := fun _ _ => by kernel_rfl
theorem Na (N : Nat) (w0 : World) (F0 : Mem) (hF : Vq w0 F0) (x0 : Line) (bz0 : Nat) (z0 : Int) (hz0 : F0 bz0 = some (oc #[(vi z0)] 3)) (r : Bool) (h : CI N x0 z0 = some r) :
  Calls Tryz.prog 133 ([(.agg (Bo x0)), (pt bz0 0)] : List Value).toArray w0 (AC w0 F0 fun F' v => v = (.bool r)) := by
 have hs0 := U4 hF
 refine Go 8 Tryz.func133 <| Sq (Rg [0, 1] ?_)
 refine Bx' 34 (Bo x0) hs0 (fun b21 w22 hs23 => ?_)
 refine Vs 1 <| Nss (Rg (rG 5) ?_)
 refine Vs 1 <| Ld hs23.at0 <| Ld (hs23.pers _ _ hz0) <| Vs 2 <| Nt <| Rt ?_
 obtain rfl := Aa h
 exact Re [(.bool (x0.Num == z0))] hs23 rfl
def GX (N : Nat) (x0 : Log) (x1 : Int) : Option (Int × Int) :=
 ((Bp N x0.Lines (fun y0 => CI N y0 x1)).bind fun r30 => (bif (decide (r30 < 0)) then some (0, 3) else some (r30, 0)))
theorem Nu : Ad Tryz.prog 60 := fun _ _ => by kernel_rfl
theorem OR (N : Nat) (w0 : World) (F0 : Mem) (hF : Vq w0 F0) (x0 : Log) (a0_4 : Vp) (n0_4 : Nat) (hb0_4 : LC x0.Jumps.length n0_4) (hs0_4 : SlA Az F0 a0_4 x0.Jumps) (a0_5 : Vp) (n0_5 : Nat) (hb0_5 : LC x0.Lines.length n0_5) (hs0_5 : SlA AD F0 a0_5 x0.Lines) (x1 : Int) (r : (Int × Int)) (h : GX N x0 x1 = some r) :
  Calls Tryz.prog 60 ([(.agg (As x0 a0_4 n0_4 a0_5 n0_5)), (vi x1)] : List Value).toArray w0 (AC w0 F0 fun F' v => v = (.tuple #[(vi r.1), (vi r.2)])) := by
 have hs0 := U4 hF
 refine Go 14 Tryz.func60 <| Sq (Rg (rG 4) ?_)
 refine Bx' 27 (As x0 a0_4 n0_4 a0_5 n0_5) hs0 (fun b21 w22 hs23 => ?_)
 refine Bx' 3 #[(vi x1)] hs23 (fun b24 w25 hs26 => ?_)
 refine Vs 2 <| Nss (Rg (rG 5) ?_)
 refine Vs 1 <| Ld hs26.at1 <| Vs 1 ?_
 obtain ⟨F1, hs27, le28, hF29⟩ := hs26.fc0
 obtain ⟨r30, hr31, h32⟩ := bind_some h
 refine Cl' Dm hs27 (Dr N w25 F1 hs27.pers x0.Lines a0_5 n0_5 hb0_5 (U5 hs0_5 le28) 133 [] [(pt b24 0)] (fun y0 => CI N y0 x1) LU (fun w1 F1 y0 r le1 pe1 hr1 => Na N w1 F1 pe1  y0 b24 x1 (le1 _ _ hF29) r hr1) _ hr31) ?_
 rintro _ F2 w34 hs35 le36 rfl
 refine Vs 1 <| Nss <| Sq (Rg [0, 1] ?_)
 refine Vs 2 <| Nt <| Cd h32 (fun hb38 h39 => ?_) (fun hb38 h40 => ?_)
 ·refine Sq (Rg [0, 1] ?_)
  refine Vs 2 <| Nt <| Rt <| Af ?_
  obtain rfl := Aa h39
  exact Re [(vi 0), (vi 3)] hs35 rfl
 ·refine Sc ?_
  refine Ab <| Sq (Rg [0, 1, 2] ?_)
  refine Vs 3 <| Nt <| Rt ?_
  obtain rfl := Aa h40
  exact Re [(vi r30), (vi 0)] hs35 rfl
def Ba (N : Nat) (x0 : Log) (x1 : Int) : Int -> Option (A8 (Int × Int) Int) := fun s27 =>
 (bif (decide (s27 < (x0.Lines.length : Int))) then ((idx x0.Lines s27).bind fun x49 => (bif (x49.Num == x1) then some (.ret (s27, 0)) else some (.next (W64 (s27 + 1))))) else some (.done s27))
def FJ (N : Nat) (x0 : Log) (x1 : Int) : Option (Int × Int) :=
 ((AL (Ba N x0 x1) N 0).bind fun o => o.k (fun r => some r) (fun s35 => some (0, 3)))
theorem MQ : Ad Tryz.prog 62 := fun _ _ => by kernel_rfl
theorem Nx (N : Nat) (w0 : World) (F0 : Mem) (hF : Vq w0 F0) (x0 : Log) (a0_4 : Vp) (n0_4 : Nat) (hb0_4 : LC x0.Jumps.length n0_4) (hs0_4 : SlA Az F0 a0_4 x0.Jumps) (a0_5 : Vp) (n0_5 : Nat) (hb0_5 : LC x0.Lines.length n0_5) (hs0_5 : SlA AD F0 a0_5 x0.Lines) (x1 : Int) (r : (Int × Int)) (h : FJ N x0 x1 = some r) :
  Calls Tryz.prog 62 ([(.agg (As x0 a0_4 n0_4 a0_5 n0_5)), (vi x1)] : List Value).toArray w0 (AC w0 F0 fun F' v => v = (.tuple #[(vi r.1), (vi r.2)])) := by
 have hs0 := U4 hF
 refine Go 23 Tryz.func62 <| Sq (Rg [0, 1, 2] ?_)
 refine Bx' 27 (As x0 a0_4 n0_4 a0_5 n0_5) hs0 (fun b21 w22 hs23 => ?_)
 refine Vs 2 <| Nss <| Sq (Rg [0] ?_)
 refine Vs 1 <| Nt ?_
 obtain ⟨o24, ho25, h26⟩ := bind_some h
 refine U9 (fun f w => ∃ (s35 : Int) (F2 : Mem), o24 = .done s35 /\ HS w0 F0 w F2 [] /\ U2 F0 F2 /\ FI f [] []) ?_ ?_
 ·refine Bk ?_
  refine U1 (by kernel_rfl) (fun m f w => ∃ (s27 : Int) (F1 : Mem), AL (Ba N x0 x1) m s27 = some o24 /\ HS w0 F0 w F1 [(sb b21 (As x0 a0_4 n0_4 a0_5 n0_5) 27)] /\ U2 F0 F1 /\ FI f [] [(1, (vi x1)), (2, (pt b21 0)), (6, (vi s27))]) N ⟨0, F0, ho25, hs23, (U3 _), fI⟩ ?_
  rintro m40 f w28 ⟨s27, F1, hit41, hs29, le30, ⟨_, rfl⟩⟩
  obtain ⟨m42, fl43, rfl, hb44, hnx45⟩ := AF hit41
  refine Sq <| Sq (Rg (rG 5) ?_)
  refine Vs 2 <| Ld hs29.at0 <| Vs 2 <| Nt <| Cd hb44 (fun hb46 h47 => ?_) (fun hb46 h48 => ?_)
  ·refine Sc ?_
   refine Ab <| Sq <| Bk <| Sq (Rg (rG 8) ?_)
   refine Vs 1 <| Ld hs29.at0 <| Vs 1 ?_
   obtain ⟨x49, hx50, h52⟩ := bind_some h47
   obtain ⟨hi51, hx50'⟩ := An hx50
   obtain ⟨b53, o54, C55, E56, fz57, rfl, hF59, hE60⟩ := Va (U5 hs0_5 le30) hx50'
   have hc62 := hE60 _ _ hx50'
   refine Ix hi51 <| Vs 1 <| Lx 0 (hs29.pers _ _ hF59) hc62 <| Vs 2 <| Nt <| Cd h52 (fun hb63 h64 => ?_) (fun hb63 h65 => ?_)
   ·refine Sq (Rg [0, 1, 2] ?_)
    refine Vs 3 <| Nt <| Rt <| AA <| Af <| Af <| AA ?_
    have hret := Ck h64 hnx45
    subst hret
    refine .inr <| Af ?_
    obtain rfl := Aa h26
    exact Re [(vi s27), (vi 0)] hs29 rfl
   ·refine Sc ?_
    refine Aq <| Ab <| Rg [0, 1, 2] <| Vs 3 <| UY ?_
    have hn66 := AH h65 hnx45
    exact ⟨m42, Nat.lt_succ_self _, (W64 (s27 + 1)), F1, hn66, hs29, le30, fI⟩
  ·refine Ex ?_
   refine Aj <| Aj <| Ay rfl ?_
   have ho67 := AG h48 hnx45
   exact .inl ⟨rfl, s27, F1, ho67, hs29.dr0, le30, fI⟩
 ·rintro f w36 ⟨s35, F2, rfl, hs37, le38, ⟨_, rfl⟩⟩
  have h68 := A0 h26
  refine Ab <| Sq (Rg [0, 1] ?_)
  refine Vs 2 <| Nt <| Rt ?_
  obtain rfl := Aa h68
  exact Re [(vi 0), (vi 3)] hs37 rfl
def FH (N : Nat) (x0 : Log) (x1 : Vo) : (List Int × Int) -> Option (A8 (List Int) (List Int × Int)) := fun s29 =>
 (bif (decide (s29.2 < (x0.Lines.length : Int))) then ((idx x0.Lines s29.2).bind fun x53 => ((bif (x53.Call == x1) then ((Cr s29.1 [s29.2]).bind fun r86 => some r86) else some s29.1).bind fun j70 => some (.next (j70, (W64 (s29.2 + 1)))))) else some (.done (s29.1, s29.2)))
def Jx (N : Nat) (x0 : Log) (x1 : Vo) : Option (List Int) :=
 ((AL (FH N x0 x1) N (([] : List Int), 0)).bind fun o => o.k (fun r => some r) (fun s38 => some s38.1))
theorem Pv : Ad Tryz.prog 63 := fun _ _ => by kernel_rfl
theorem Qm (N : Nat) (w0 : World) (F0 : Mem) (hF : Vq w0 F0) (x0 : Log) (a0_4 : Vp) (n0_4 : Nat) (hb0_4 : LC x0.Jumps.length n0_4) (hs0_4 : SlA Az F0 a0_4 x0.Jumps) (a0_5 : Vp) (n0_5 : Nat) (hb0_5 : LC x0.Lines.length n0_5) (hs0_5 : SlA AD F0 a0_5 x0.Lines) (x1 : Vo) (r : (List Int)) (h : Jx N x0 x1 = some r) :
  Calls Tryz.prog 63 ([(.agg (As x0 a0_4 n0_4 a0_5 n0_5)), (sv x1)] : List Value).toArray w0 (AC w0 F0 fun F' v => ∃ (aq0_0 : Vp) (nq0_0 : Nat), v = (.slice aq0_0 r.length nq0_0) /\ LC r.length nq0_0 /\ SlA Az F' aq0_0 r) := by
 have hs0 := U4 hF
 refine Go 27 Tryz.func63 <| Sq (Rg [0, 1] ?_)
 refine Bx' 27 (As x0 a0_4 n0_4 a0_5 n0_5) hs0 (fun b21 w22 hs23 => ?_)
 refine Vs 1 <| Nss (Rg [0] ?_)
 refine Vs 1 <| Nss <| Sq (Rg [0] ?_)
 refine Vs 1 <| Nt ?_
 have hs24 := hs23.dummy (oc #[] 0)
 obtain ⟨o26, ho27, h28⟩ := bind_some h
 refine U9 (fun f w => ∃ (s38 : (List Int × Int)) (F2 : Mem) (as38_0 : Vp) (ns38_0 : Nat) (es38_0 : Option Nat × Obj), o26 = .done s38 /\ HS w0 F0 w F2 [es38_0] /\ U2 F0 F2 /\ FI f [] [(5, (.slice as38_0 s38.1.length ns38_0))] /\ Am Az 3 F2 as38_0 ns38_0 s38.1 es38_0) ?_ ?_
 ·refine Bk ?_
  refine U1 (by kernel_rfl) (fun m f w => ∃ (s29 : (List Int × Int)) (F1 : Mem) (as29_0 : Vp) (ns29_0 : Nat) (es29_0 : Option Nat × Obj), AL (FH N x0 x1) m s29 = some o26 /\ HS w0 F0 w F1 [es29_0, (sb b21 (As x0 a0_4 n0_4 a0_5 n0_5) 27)] /\ U2 F0 F1 /\ FI f [] [(1, (sv x1)), (2, (pt b21 0)), (5, (.slice as29_0 s29.1.length ns29_0)), (6, (vi s29.2))] /\ Am Az 3 F1 as29_0 ns29_0 s29.1 es29_0) N ⟨(([] : List Int), 0), F0, none, 0, (none, .cells #[] 0 (0, 0)), ho27, hs24, (U3 _), fI, (Vi Az 3 F0 _)⟩ ?_
  rintro m44 f w30 ⟨s29, F1, as29_0, ns29_0, es29_0, hit45, hs31, le32, ⟨_, rfl⟩, hrs29_0⟩
  obtain ⟨m46, fl47, rfl, hb48, hnx49⟩ := AF hit45
  refine Sq <| Sq (Rg (rG 5) ?_)
  refine Vs 2 <| Ld hs31.at1 <| Vs 2 <| Nt <| Cd hb48 (fun hb50 h51 => ?_) (fun hb50 h52 => ?_)
  ·refine Sc ?_
   refine Ab <| Sq <| Bk <| Sq (Rg (rG 8) ?_)
   refine Vs 1 <| Ld hs31.at1 <| Vs 1 ?_
   obtain ⟨x53, hx54, h56⟩ := bind_some h51
   obtain ⟨hi55, hx54'⟩ := An hx54
   obtain ⟨b57, o58, C59, E60, fz61, rfl, hF63, hE64⟩ := Va (U5 hs0_5 le32) hx54'
   have hc66 := hE64 _ _ hx54'
   refine Ix hi55 <| Vs 1 <| Lx 4 (hs31.pers _ _ hF63) hc66 <| Vs 2 <| Nt ?_
   obtain ⟨j70, hj76, h77⟩ := bind_some h56
   refine U9 (fun f w => ∃ (F3 : Mem) (aj70_0 : Vp) (nj70_0 : Nat) (ej70_0 : Option Nat × Obj), HS w0 F0 w F3 [ej70_0, (sb b21 (As x0 a0_4 n0_4 (some ⟨b57, o58, none⟩) n0_5) 27)] /\ U2 F1 F3 /\ FI f [] [(1, (sv x1)), (2, (pt b21 0)), (5, (.slice aj70_0 j70.length nj70_0)), (6, (vi s29.2))] /\ Am Az 3 F3 aj70_0 nj70_0 j70 ej70_0) ?_ ?_
   ·refine Cd hj76 (fun hb78 h79 => ?_) (fun hb78 h80 => ?_)
    ·refine Rg (rG 5) ?_
     refine Vs 2 <| Bs 3 [(vi s29.2)] hs31 (fun b81 w82 hs83 => ?_)
     have hr85 : Am Az 3 F1 (some ⟨b81, 0, none⟩) 1 [s29.2] (some b81, .cells ([(vi s29.2)] : List Value).toArray 3 (0, 0)) := Vj ⟨rfl, rfl⟩ (by simp)
     obtain ⟨r86, hap87, h88⟩ := bind_some h79
     refine Ap1 Pc hs83 hrs29_0 (hs83.rd0 hr85) hap87 (fun a89 n90 e91 w92 hs93 hr94 => ?_)
     refine Vs 1 <| UY ?_
     obtain rfl := Aa h88
     exact .inl ⟨rfl, F1, a89, n90, e91, hs93.dr0, (U3 _), fI, hr94⟩
    ·refine Sc ?_
     obtain rfl := Aa h80
     exact .inl ⟨rfl, F1, as29_0, ns29_0, es29_0, hs31, (U3 _), fI, hrs29_0⟩
   ·rintro f w67 ⟨F3, aj70_0, nj70_0, ej70_0, hs68, le69, ⟨_, rfl⟩, hrj70_0⟩
    refine Aq <| Ab <| Rg [0, 1, 2] <| Vs 3 <| UY ?_
    have hn95 := AH h77 hnx49
    exact ⟨m46, Nat.lt_succ_self _, (j70, (W64 (s29.2 + 1))), F3, aj70_0, nj70_0, ej70_0, hn95, hs68, (le32.t le69), fI, hrj70_0⟩
  ·refine Ex ?_
   refine Aj <| Aj <| Ay rfl ?_
   have ho96 := AG h52 hnx49
   exact .inl ⟨rfl, (s29.1, s29.2), F1, as29_0, ns29_0, es29_0, ho96, hs31.dr1, le32, fI, hrs29_0⟩
 ·rintro f w39 ⟨s38, F2, as38_0, ns38_0, es38_0, rfl, hs40, le41, ⟨_, rfl⟩, hrs38_0⟩
  have h97 := A0 h28
  refine Ab <| Sq (Rg [0, 1] ?_)
  refine Vs 2 <| Nt <| Rt ?_
  have hb101 := Vh hrs38_0
  obtain ⟨F4, hs98, le99, hs100⟩ := hs40.fr0 hrs38_0
  obtain rfl := Aa h97
  exact Re [(.slice as38_0 s38.1.length ns38_0)] hs98 ⟨as38_0, ns38_0, rfl, hb101, hs100⟩
def De (N : Nat) (x0 : Log) (x1 : Span) : (List Int × Int) -> Option (A8 (List Int) (List Int × Int)) := fun s32 =>
 (bif (decide (s32.2 < (x0.Lines.length : Int))) then (((idx x0.Lines s32.2).bind fun x70 => ((GQ N x70.Minute x1.Lo x1.Hi).bind fun r84 => some r84)).bind fun j61 => ((bif j61 then ((Cr s32.1 [s32.2]).bind fun r111 => some r111) else some s32.1).bind fun j95 => some (.next (j95, (W64 (s32.2 + 1)))))) else some (.done (s32.1, s32.2)))
def Ev (N : Nat) (x0 : Log) (x1 : Span) : Option (List Int) :=
 ((AL (De N x0 x1) N (([] : List Int), 0)).bind fun o => o.k (fun r => some r) (fun s41 => some s41.1))
theorem KA : Ad Tryz.prog 64 := fun _ _ => by kernel_rfl
theorem LZ (N : Nat) (w0 : World) (F0 : Mem) (hF : Vq w0 F0) (x0 : Log) (a0_4 : Vp) (n0_4 : Nat) (hb0_4 : LC x0.Jumps.length n0_4) (hs0_4 : SlA Az F0 a0_4 x0.Jumps) (a0_5 : Vp) (n0_5 : Nat) (hb0_5 : LC x0.Lines.length n0_5) (hs0_5 : SlA AD F0 a0_5 x0.Lines) (x1 : Span) (r : (List Int)) (h : Ev N x0 x1 = some r) :
  Calls Tryz.prog 64 ([(.agg (As x0 a0_4 n0_4 a0_5 n0_5)), (.agg #[(vi x1.Lo), (vi x1.Hi)])] : List Value).toArray w0 (AC w0 F0 fun F' v => ∃ (aq0_0 : Vp) (nq0_0 : Nat), v = (.slice aq0_0 r.length nq0_0) /\ LC r.length nq0_0 /\ SlA Az F' aq0_0 r) := by
 have hs0 := U4 hF
 refine Go 30 Tryz.func64 <| Sq (Rg [0, 1, 2] ?_)
 refine Bx' 27 (As x0 a0_4 n0_4 a0_5 n0_5) hs0 (fun b21 w22 hs23 => ?_)
 refine Bx' 80 #[(vi x1.Lo), (vi x1.Hi)] hs23 (fun b24 w25 hs26 => ?_)
 refine Vs 1 <| Nss (Rg [0] ?_)
 refine Vs 1 <| Nss <| Sq (Rg [0] ?_)
 refine Vs 1 <| Nt ?_
 have hs27 := hs26.dummy (oc #[] 0)
 obtain ⟨o29, ho30, h31⟩ := bind_some h
 refine U9 (fun f w => ∃ (s41 : (List Int × Int)) (F2 : Mem) (as41_0 : Vp) (ns41_0 : Nat) (es41_0 : Option Nat × Obj), o29 = .done s41 /\ HS w0 F0 w F2 [es41_0] /\ U2 F0 F2 /\ FI f [] [(5, (.slice as41_0 s41.1.length ns41_0))] /\ Am Az 3 F2 as41_0 ns41_0 s41.1 es41_0) ?_ ?_
 ·refine Bk ?_
  refine U1 (by kernel_rfl) (fun m f w => ∃ (s32 : (List Int × Int)) (F1 : Mem) (as32_0 : Vp) (ns32_0 : Nat) (es32_0 : Option Nat × Obj), AL (De N x0 x1) m s32 = some o29 /\ HS w0 F0 w F1 [es32_0, (sb b24 #[(vi x1.Lo), (vi x1.Hi)] 80), (sb b21 (As x0 a0_4 n0_4 a0_5 n0_5) 27)] /\ U2 F0 F1 /\ FI f [] [(2, (pt b21 0)), (3, (pt b24 0)), (5, (.slice as32_0 s32.1.length ns32_0)), (6, (vi s32.2))] /\ Am Az 3 F1 as32_0 ns32_0 s32.1 es32_0) N ⟨(([] : List Int), 0), F0, none, 0, (none, .cells #[] 0 (0, 0)), ho30, hs27, (U3 _), fI, (Vi Az 3 F0 _)⟩ ?_
  rintro m47 f w33 ⟨s32, F1, as32_0, ns32_0, es32_0, hit48, hs34, le35, ⟨_, rfl⟩, hrs32_0⟩
  obtain ⟨m49, fl50, rfl, hb51, hnx52⟩ := AF hit48
  refine Sq <| Sq (Rg (rG 5) ?_)
  refine Vs 2 <| Ld hs34.at2 <| Vs 2 <| Nt <| Cd hb51 (fun hb53 h54 => ?_) (fun hb53 h55 => ?_)
  ·refine Sc ?_
   refine Ab <| Sq <| Bk <| Sq ?_
   obtain ⟨j61, hj68, h69⟩ := bind_some h54
   refine RD 11 11 [es32_0, (sb b24 #[(vi x1.Lo), (vi x1.Hi)] 80), (sb b21 (As x0 a0_4 n0_4 a0_5 n0_5) 27)] [] hs34 (fun f w => ∃ (F3 : Mem), HS w0 F0 w F3 [es32_0, (sb b24 #[(vi x1.Lo), (vi x1.Hi)] 80), (sb b21 (As x0 a0_4 n0_4 a0_5 n0_5) 27)] /\ U2 F1 F3 /\ FI f [] [(2, (pt b21 0)), (3, (pt b24 0)), (5, (.slice as32_0 s32.1.length ns32_0)), (6, (vi s32.2)), (24, (.bool j61))]) (fun wd56 hw57 => ?_) ?_
   ·refine Dv [0] ?_
    refine Dl 1 (fun _ hq => (hq.1.2 2 _ _ rfl)) <| Dv [2] ?_
    obtain ⟨x70, hx71, h73⟩ := bind_some hj68
    obtain ⟨hi72, hx71'⟩ := An hx71
    obtain ⟨b74, o75, C76, E77, fz78, rfl, hF80, hE81⟩ := Va (U5 hs0_5 le35) hx71'
    have hc83 := hE81 _ _ hx71'
    refine Di 3 hi72 <| Dv [4] <| Dx 5 3 (fun _ hq => hq.1.1 _ _ hF80) hc83 <| Dv [6] <| Dl 7 (fun _ hq => (hq.1.2 1 _ _ rfl)) <| Dv [8] <| Dl 9 (fun _ hq => (hq.1.2 1 _ _ rfl)) <| D1 10 ?_
    obtain ⟨r84, hr85, h86⟩ := bind_some h73
    refine DCl LQ hw57 (M3 N wd56 F1 hw57.pers x70.Minute x1.Lo x1.Hi _ hr85) ?_
    rintro _ F4 w88 hs89 le90 rfl
    obtain rfl := Aa h86
    exact Vf (by kernel_rfl) ⟨F4, hs89, le90, fI⟩
   ·rintro f w58 ⟨F3, hs59, le60, ⟨_, rfl⟩⟩
    refine Ab ?_
    obtain ⟨j95, hj101, h102⟩ := bind_some h69
    refine U9 (fun f w => ∃ (F5 : Mem) (aj95_0 : Vp) (nj95_0 : Nat) (ej95_0 : Option Nat × Obj), HS w0 F0 w F5 [ej95_0, (sb b24 #[(vi x1.Lo), (vi x1.Hi)] 80), (sb b21 (As x0 a0_4 n0_4 a0_5 n0_5) 27)] /\ U2 F3 F5 /\ FI f [] [(2, (pt b21 0)), (3, (pt b24 0)), (5, (.slice aj95_0 j95.length nj95_0)), (6, (vi s32.2))] /\ Am Az 3 F5 aj95_0 nj95_0 j95 ej95_0) ?_ ?_
    ·refine Cd hj101 (fun hb103 h104 => ?_) (fun hb103 h105 => ?_)
     ·refine Rg (rG 5) ?_
      refine Vs 2 <| Bs 3 [(vi s32.2)] hs59 (fun b106 w107 hs108 => ?_)
      have hr110 : Am Az 3 F3 (some ⟨b106, 0, none⟩) 1 [s32.2] (some b106, .cells ([(vi s32.2)] : List Value).toArray 3 (0, 0)) := Vj ⟨rfl, rfl⟩ (by simp)
      obtain ⟨r111, hap112, h113⟩ := bind_some h104
      refine Ap1 Pc hs108 (hrs32_0.mono le60) (hs108.rd0 hr110) hap112 (fun a114 n115 e116 w117 hs118 hr119 => ?_)
      refine Vs 1 <| UY ?_
      obtain rfl := Aa h113
      exact .inl ⟨rfl, F3, a114, n115, e116, hs118.dr0, (U3 _), fI, hr119⟩
     ·refine Sc ?_
      obtain rfl := Aa h105
      exact .inl ⟨rfl, F3, as32_0, ns32_0, es32_0, hs59, (U3 _), fI, (hrs32_0.mono le60)⟩
    ·rintro f w92 ⟨F5, aj95_0, nj95_0, ej95_0, hs93, le94, ⟨_, rfl⟩, hrj95_0⟩
     refine Aq <| Ab <| Rg [0, 1, 2] <| Vs 3 <| UY ?_
     have hn120 := AH h102 hnx52
     exact ⟨m49, Nat.lt_succ_self _, (j95, (W64 (s32.2 + 1))), F5, aj95_0, nj95_0, ej95_0, hn120, hs93, ((le35.t le60).trans le94), fI, hrj95_0⟩
  ·refine Ex ?_
   refine Aj <| Aj <| Ay rfl ?_
   have ho121 := AG h55 hnx52
   exact .inl ⟨rfl, (s32.1, s32.2), F1, as32_0, ns32_0, es32_0, ho121, hs34.dr1.dr1, le35, fI, hrs32_0⟩
 ·rintro f w42 ⟨s41, F2, as41_0, ns41_0, es41_0, rfl, hs43, le44, ⟨_, rfl⟩, hrs41_0⟩
  have h122 := A0 h31
  refine Ab <| Sq (Rg [0, 1] ?_)
  refine Vs 2 <| Nt <| Rt ?_
  have hb126 := Vh hrs41_0
  obtain ⟨F6, hs123, le124, hs125⟩ := hs43.fr0 hrs41_0
  obtain rfl := Aa h122
  exact Re [(.slice as41_0 s41.1.length ns41_0)] hs123 ⟨as41_0, ns41_0, rfl, hb126, hs125⟩
def CG (N : Nat) (x0 : (List Vo)) (x1 : (List Vo)) : Int -> Option (A8 Bool Int) := fun s27 =>
 (bif (decide (s27 < (x0.length : Int))) then (((idx x0 s27).bind fun x62 => ((idx x1 s27).bind fun x76 => some (x62 != x76))).bind fun j54 => (bif j54 then some (.ret false) else some (.next (W64 (s27 + 1))))) else some (.done s27))
def DH (N : Nat) (x0 : (List Vo)) (x1 : (List Vo)) : Option Bool :=
 (bif ((x0.length : Int) != (x1.length : Int)) then some false else ((AL (CG N x0 x1) N 0).bind fun o => o.k (fun r => some r) (fun s35 => some true)))
theorem Jb : Ad Tryz.prog 65 := fun _ _ => by kernel_rfl
theorem J6 (N : Nat) (w0 : World) (F0 : Mem) (hF : Vq w0 F0) (x0 : (List Vo)) (a0_0 : Vp) (n0_0 : Nat) (hb0_0 : LC x0.length n0_0) (hs0_0 : SlA AK F0 a0_0 x0) (x1 : (List Vo)) (a1_0 : Vp) (n1_0 : Nat) (hb1_0 : LC x1.length n1_0) (hs1_0 : SlA AK F0 a1_0 x1) (r : Bool) (h : DH N x0 x1 = some r) :
  Calls Tryz.prog 65 ([(.slice a0_0 x0.length n0_0), (.slice a1_0 x1.length n1_0)] : List Value).toArray w0 (AC w0 F0 fun F' v => v = (.bool r)) := by
 have hs0 := U4 hF
 refine Go 26 Tryz.func65 <| Sq (Rg [0] ?_)
 refine Vs 1 <| Nss <| Sq (Rg (rG 5) ?_)
 refine Vs 5 <| Nt <| Cd h (fun hb21 h22 => ?_) (fun hb21 h23 => ?_)
 ·refine Sq (Rg [0] ?_)
  refine Vs 1 <| Nt <| Rt <| Af ?_
  obtain rfl := Aa h22
  exact Re [(.bool false)] hs0 rfl
 ·refine Sc ?_
  refine Ab <| Sq <| Sq (Rg [0] ?_)
  refine Vs 1 <| Nt ?_
  obtain ⟨o24, ho25, h26⟩ := bind_some h23
  refine U9 (fun f w => ∃ (s35 : Int) (F2 : Mem), o24 = .done s35 /\ HS w0 F0 w F2 [] /\ U2 F0 F2 /\ FI f [] []) ?_ ?_
  ·refine Bk ?_
   refine U1 (by kernel_rfl) (fun m f w => ∃ (s27 : Int) (F1 : Mem), AL (CG N x0 x1) m s27 = some o24 /\ HS w0 F0 w F1 [] /\ U2 F0 F1 /\ FI f [] [(0, (.slice a0_0 x0.length n0_0)), (1, (.slice a1_0 x1.length n1_0)), (5, (vi s27))]) N ⟨0, F0, ho25, hs0, (U3 _), fI⟩ ?_
   rintro m40 f w28 ⟨s27, F1, hit41, hs29, le30, ⟨_, rfl⟩⟩
   obtain ⟨m42, fl43, rfl, hb44, hnx45⟩ := AF hit41
   refine Sq <| Sq (Rg (rG 4) ?_)
   refine Vs 4 <| Nt <| Cd hb44 (fun hb46 h47 => ?_) (fun hb46 h48 => ?_)
   ·refine Sc ?_
    refine Ab <| Sq <| Bk <| Sq ?_
    obtain ⟨j54, hj60, h61⟩ := bind_some h47
    refine RD 9 9 [] [] hs29 (fun f w => ∃ (F3 : Mem), HS w0 F0 w F3 [] /\ U2 F1 F3 /\ FI f [] [(0, (.slice a0_0 x0.length n0_0)), (1, (.slice a1_0 x1.length n1_0)), (5, (vi s27)), (25, (.bool j54))]) (fun wd49 hw50 => ?_) ?_
    ·refine Dv [0, 1] ?_
     obtain ⟨x62, hx63, h65⟩ := bind_some hj60
     obtain ⟨hi64, hx63'⟩ := An hx63
     obtain ⟨b66, o67, C68, E69, fz70, rfl, hF72, hE73⟩ := Va (U5 hs0_0 le30) hx63'
     have hc75 := hE73 _ _ hx63'
     refine Di 2 hi64 <| Dx 3 0 (fun _ hq => hq.1.1 _ _ hF72) hc75 <| Dv [4, 5] ?_
     obtain ⟨x76, hx77, h79⟩ := bind_some h65
     obtain ⟨hi78, hx77'⟩ := An hx77
     obtain ⟨b80, o81, C82, E83, fz84, rfl, hF86, hE87⟩ := Va (U5 hs1_0 le30) hx77'
     have hc89 := hE87 _ _ hx77'
     refine Di 6 hi78 <| Dx 7 0 (fun _ hq => hq.1.1 _ _ hF86) hc89 <| Dv [8] ?_
     obtain rfl := Aa h79
     exact Vf (by kernel_rfl) ⟨F1, hw50, (U3 _), fI⟩
    ·rintro f w51 ⟨F3, hs52, le53, ⟨_, rfl⟩⟩
     refine Ab <| Cd h61 (fun hb90 h91 => ?_) (fun hb90 h92 => ?_)
     ·refine Sq (Rg [0] ?_)
      refine Vs 1 <| Nt <| Rt <| AA <| Af <| Af <| AA ?_
      have hret := Ck h91 hnx45
      subst hret
      refine .inr <| Af ?_
      obtain rfl := Aa h26
      exact Re [(.bool false)] hs52 rfl
     ·refine Sc ?_
      refine Aq <| Ab <| Rg [0, 1, 2] <| Vs 3 <| UY ?_
      have hn93 := AH h92 hnx45
      exact ⟨m42, Nat.lt_succ_self _, (W64 (s27 + 1)), F3, hn93, hs52, (le30.t le53), fI⟩
   ·refine Ex ?_
    refine Aj <| Aj <| Ay rfl ?_
    have ho94 := AG h48 hnx45
    exact .inl ⟨rfl, s27, F1, ho94, hs29, le30, fI⟩
  ·rintro f w36 ⟨s35, F2, rfl, hs37, le38, ⟨_, rfl⟩⟩
   have h95 := A0 h26
   refine Ab <| Sq (Rg [0] ?_)
   refine Vs 1 <| Nt <| Rt ?_
   obtain rfl := Aa h95
   exact Re [(.bool true)] hs37 rfl
def Bw (N : Nat) (x0 : Log) (s29 : (List Vo × Int)) (x52 : Line) : Int -> Option (A8 (List Vo) Int) := fun s69 =>
 ((bif (decide (s69 < (s29.1.length : Int))) then ((idx s29.1 s69).bind fun x111 => some (Hz x111 x52.Call)) else some false).bind fun j98 => (bif j98 then some (.next (W64 (s69 + 1))) else some (.done s69)))
def Ch (N : Nat) (x0 : Log) : (List Vo × Int) -> Option (A8 (List Vo) (List Vo × Int)) := fun s29 =>
 (bif (decide (s29.2 < (x0.Lines.length : Int))) then ((idx x0.Lines s29.2).bind fun x52 => ((AL (Bw N x0 s29 x52) N 0).bind fun o => o.k (fun r => some (.ret r)) (fun s79 => ((bif (decide (s79 < (s29.1.length : Int))) then ((idx s29.1 s79).bind fun x145 => some (x145 == x52.Call)) else some false).bind fun j132 => (bif j132 then some (.next (s29.1, (W64 (s29.2 + 1)))) else ((sub s29.1 0 s79).bind fun r170 => ((Cr ([] : List Vo) r170).bind fun r178 => ((Cr r178 [x52.Call]).bind fun r192 => ((sub s29.1 s79 (s29.1.length : Int)).bind fun r201 => ((Cr r192 r201).bind fun r209 => some (.next (r209, (W64 (s29.2 + 1)))))))))))))) else some (.done (s29.1, s29.2)))
def D3 (N : Nat) (x0 : Log) : Option (List Vo) :=
 ((AL (Ch N x0) N (([] : List Vo), 0)).bind fun o => o.k (fun r => some r) (fun s37 => some s37.1))
theorem JT : Ad Tryz.prog 66 := fun _ _ => by kernel_rfl
theorem KK (N : Nat) (w0 : World) (F0 : Mem) (hF : Vq w0 F0) (x0 : Log) (a0_4 : Vp) (n0_4 : Nat) (hb0_4 : LC x0.Jumps.length n0_4) (hs0_4 : SlA Az F0 a0_4 x0.Jumps) (a0_5 : Vp) (n0_5 : Nat) (hb0_5 : LC x0.Lines.length n0_5) (hs0_5 : SlA AD F0 a0_5 x0.Lines) (r : (List Vo)) (h : D3 N x0 = some r) :
  Calls Tryz.prog 66 ([(.agg (As x0 a0_4 n0_4 a0_5 n0_5))] : List Value).toArray w0 (AC w0 F0 fun F' v => ∃ (aq0_0 : Vp) (nq0_0 : Nat), v = (.slice aq0_0 r.length nq0_0) /\ LC r.length nq0_0 /\ SlA AK F' aq0_0 r) := by
 have hs0 := U4 hF
 refine Go 62 Tryz.func66 <| Sq (Rg [0, 1] ?_)
 refine Bx' 27 (As x0 a0_4 n0_4 a0_5 n0_5) hs0 (fun b21 w22 hs23 => ?_)
 refine Vs 1 <| Nss (Rg [0] ?_)
 refine Vs 1 <| Nss <| Sq (Rg [0] ?_)
 refine Vs 1 <| Nt ?_
 have hs24 := hs23.dummy (oc #[] 0)
 obtain ⟨o26, ho27, h28⟩ := bind_some h
 refine U9 (fun f w => ∃ (s37 : (List Vo × Int)) (F2 : Mem) (as37_0 : Vp) (ns37_0 : Nat) (es37_0 : Option Nat × Obj), o26 = .done s37 /\ HS w0 F0 w F2 [es37_0] /\ U2 F0 F2 /\ FI f [] [(3, (.slice as37_0 s37.1.length ns37_0))] /\ Am AK 9 F2 as37_0 ns37_0 s37.1 es37_0) ?_ ?_
 ·refine Bk ?_
  refine U1 (by kernel_rfl) (fun m f w => ∃ (s29 : (List Vo × Int)) (F1 : Mem) (as29_0 : Vp) (ns29_0 : Nat) (es29_0 : Option Nat × Obj), AL (Ch N x0) m s29 = some o26 /\ HS w0 F0 w F1 [es29_0, (sb b21 (As x0 a0_4 n0_4 a0_5 n0_5) 27)] /\ U2 F0 F1 /\ FI f [] [(1, (pt b21 0)), (3, (.slice as29_0 s29.1.length ns29_0)), (4, (vi s29.2))] /\ Am AK 9 F1 as29_0 ns29_0 s29.1 es29_0) N ⟨(([] : List Vo), 0), F0, none, 0, (none, .cells #[] 0 (0, 0)), ho27, hs24, (U3 _), fI, (Vi AK 9 F0 _)⟩ ?_
  rintro m43 f w30 ⟨s29, F1, as29_0, ns29_0, es29_0, hit44, hs31, le32, ⟨_, rfl⟩, hrs29_0⟩
  obtain ⟨m45, fl46, rfl, hb47, hnx48⟩ := AF hit44
  refine Sq <| Sq (Rg (rG 5) ?_)
  refine Vs 2 <| Ld hs31.at1 <| Vs 2 <| Nt <| Cd hb47 (fun hb49 h50 => ?_) (fun hb49 h51 => ?_)
  ·refine Sc ?_
   refine Ab <| Sq <| Bk <| Sq (Rg (rG 7) ?_)
   refine Vs 1 <| Ld hs31.at1 <| Vs 1 ?_
   obtain ⟨x52, hx53, h55⟩ := bind_some h50
   obtain ⟨hi54, hx53'⟩ := An hx53
   obtain ⟨b56, o57, C58, E59, fz60, rfl, hF62, hE63⟩ := Va (U5 hs0_5 le32) hx53'
   have hc65 := hE63 _ _ hx53'
   refine Ix hi54 <| Vs 1 <| Lx 4 (hs31.pers _ _ hF62) hc65 <| Vs 1 <| Nss (Rg [0] ?_)
   refine Vs 1 <| Nss ?_
   obtain ⟨o66, ho67, h68⟩ := bind_some h55
   refine U9 (fun f w => ∃ (s79 : Int) (F4 : Mem), o66 = .done s79 /\ HS w0 F0 w F4 [es29_0, (sb b21 (As x0 a0_4 n0_4 (some ⟨b56, o57, none⟩) n0_5) 27)] /\ U2 F1 F4 /\ FI f [] [(1, (pt b21 0)), (3, (.slice as29_0 s29.1.length ns29_0)), (4, (vi s29.2)), (5, (sv x52.Call)), (6, (vi s79))]) ?_ ?_
   ·refine Bk ?_
    refine U1 (by kernel_rfl) (fun m f w => ∃ (s69 : Int) (F3 : Mem), AL (Bw N x0 s29 x52) m s69 = some o66 /\ HS w0 F0 w F3 [es29_0, (sb b21 (As x0 a0_4 n0_4 (some ⟨b56, o57, none⟩) n0_5) 27)] /\ U2 F1 F3 /\ FI f [] [(1, (pt b21 0)), (3, (.slice as29_0 s29.1.length ns29_0)), (4, (vi s29.2)), (5, (sv x52.Call)), (6, (vi s69))]) N ⟨0, F1, ho67, hs31, (U3 _), fI⟩ ?_
    rintro m89 f w70 ⟨s69, F3, hit90, hs71, le72, ⟨_, rfl⟩⟩
    obtain ⟨m91, fl92, rfl, hb93, hnx94⟩ := AF hit90
    refine Sq <| Sq (Rg (rG 12) ?_)
    obtain ⟨j98, hj106, h107⟩ := bind_some hb93
    refine U8 (fun f w => ∃ (F5 : Mem), HS w0 F0 w F5 [es29_0, (sb b21 (As x0 a0_4 n0_4 (some ⟨b56, o57, none⟩) n0_5) 27)] /\ U2 F3 F5 /\ FI f [] [(1, (pt b21 0)), (3, (.slice as29_0 s29.1.length ns29_0)), (4, (vi s29.2)), (5, (sv x52.Call)), (6, (vi s69)), (32, (.bool j98))]) ?_ ?_
    ·refine Vs 5 ?_
     refine Sp hj106 (fun hb108 h109 => ?_) (fun hb108 h110 => ?_)
     ·refine Vgs hb108 2 ?_
      obtain ⟨x111, hx112, h114⟩ := bind_some h109
      obtain ⟨hi113, hx112'⟩ := An hx112
      obtain ⟨b115, C116, rfl, rfl, hE119⟩ := Am.open (hrs29_0.mono le72) hx112'
      have hr120 := (hrs29_0.mono le72)
      have hc122 := hE119 _ _ hx112'
      refine Un hb108 hi113 <| Lxg hb108 0 hs71.at0 hc122 <| Vgs hb108 2 <| Pk1 hb108 ?_
      obtain rfl := Aa h114
      exact UY ⟨rfl, F3, hs71, (U3 _), fI⟩
     ·refine Ss hb108 6 ?_
      refine Pk0 hb108 ?_
      obtain rfl := Aa h110
      exact UY ⟨rfl, F3, hs71, (U3 _), fI⟩
    ·rintro f w95 ⟨F5, hs96, le97, ⟨_, rfl⟩⟩
     refine Ab <| Cd h107 (fun hb123 h124 => ?_) (fun hb123 h125 => ?_)
     ·refine Sc ?_
      refine Ab <| Bk <| Rg [0, 1, 2] <| Vs 3 <| UY <| Aq ?_
      have hn126 := AH h124 hnx94
      exact ⟨m91, Nat.lt_succ_self _, (W64 (s69 + 1)), F5, hn126, hs96, (le72.t le97), fI⟩
     ·refine Ex ?_
      refine Aj <| Aj <| Ay rfl ?_
      have ho127 := AG h125 hnx94
      exact .inl ⟨rfl, s69, F5, ho127, hs96, (le72.t le97), fI⟩
   ·rintro f w80 ⟨s79, F4, rfl, hs81, le82, ⟨_, rfl⟩⟩
    have h128 := A0 h68
    refine Ab <| Sq <| Sq (Rg (rG 12) ?_)
    obtain ⟨j132, hj140, h141⟩ := bind_some h128
    refine U8 (fun f w => ∃ (F6 : Mem), HS w0 F0 w F6 [es29_0, (sb b21 (As x0 a0_4 n0_4 (some ⟨b56, o57, none⟩) n0_5) 27)] /\ U2 F4 F6 /\ FI f [] [(1, (pt b21 0)), (3, (.slice as29_0 s29.1.length ns29_0)), (4, (vi s29.2)), (5, (sv x52.Call)), (6, (vi s79)), (46, (.bool j132))]) ?_ ?_
    ·refine Vs 5 ?_
     refine Sp hj140 (fun hb142 h143 => ?_) (fun hb142 h144 => ?_)
     ·refine Vgs hb142 2 ?_
      obtain ⟨x145, hx146, h148⟩ := bind_some h143
      obtain ⟨hi147, hx146'⟩ := An hx146
      obtain ⟨b149, C150, rfl, rfl, hE153⟩ := Am.open (hrs29_0.mono le82) hx146'
      have hr154 := (hrs29_0.mono le82)
      have hc156 := hE153 _ _ hx146'
      refine Un hb142 hi147 <| Lxg hb142 0 hs81.at0 hc156 <| Vgs hb142 2 <| Pk1 hb142 ?_
      obtain rfl := Aa h148
      exact UY ⟨rfl, F4, hs81, (U3 _), fI⟩
     ·refine Ss hb142 6 ?_
      refine Pk0 hb142 ?_
      obtain rfl := Aa h144
      exact UY ⟨rfl, F4, hs81, (U3 _), fI⟩
    ·rintro f w129 ⟨F6, hs130, le131, ⟨_, rfl⟩⟩
     refine Ab <| Cd h141 (fun hb157 h158 => ?_) (fun hb157 h159 => ?_)
     ·refine Ex ?_
      refine Aj <| Ay rfl <| Ab <| Rg [0, 1, 2] <| Vs 3 <| UY ?_
      have hn160 := AH h158 hnx48
      exact ⟨m45, Nat.lt_succ_self _, (s29.1, (W64 (s29.2 + 1))), F6, as29_0, ns29_0, es29_0, hn160, hs130, ((le32.t le82).trans le131), fI, (hrs29_0.mono (le82.t le131))⟩
     ·refine Sc ?_
      refine Ab <| Sq (Rg (rG 6) ?_)
      refine Bs 9 [] hs130 (fun b161 w162 hs163 => ?_)
      have hr165 : Am AK 9 F6 (some ⟨b161, 0, none⟩) 0 ([] : List Vo) (some b161, .cells ([] : List Value).toArray 9 (0, 0)) := Vj rfl (by simp)
      refine Vs 2 ?_
      have hb169 := Vh (hrs29_0.mono (le82.t le131))
      obtain ⟨F7, hs166, le167, hs168⟩ := hs163.fr1 (hrs29_0.mono (le82.t le131))
      obtain ⟨r170, hr171, h172⟩ := bind_some h159
      obtain ⟨a173, n174, hb175, hs176, hrun177⟩ := D4 (P := Tryz.prog) (T := AK) (lo := none) (hi := (some (.tmp 49))) (mx := none) (t := 55) (E := 9) (by_ := 16) (c := ns29_0) (a := as29_0) (l := s29.1) (r := r170) (il := 0) (ih := s79) (im := 0) (by kernel_rfl) (by kernel_rfl) hb169 hs168 (fun h => by first | rfl | cases h) hr171
      refine V 50 55 (hrun177 (x := (.tmp 48)) rfl rfl rfl trivial) ?_
      obtain ⟨r178, hap179, h180⟩ := bind_some h172
      refine Ap0 Rb hs166 (hr165.mono le167) (SlA.rd hs166 hs176) hap179 (fun a181 n182 e183 w184 hs185 hr186 => ?_)
      refine Vs 1 <| Nss (Rg (rG 5) ?_)
      refine Vs 2 <| Bs 9 [(sv x52.Call)] hs185 (fun b187 w188 hs189 => ?_)
      have hr191 : Am AK 9 F7 (some ⟨b187, 0, none⟩) 1 [x52.Call] (some b187, .cells ([(sv x52.Call)] : List Value).toArray 9 (0, 0)) := Vj ⟨rfl, rfl⟩ (by simp)
      obtain ⟨r192, hap193, h194⟩ := bind_some h180
      refine Ap1 Rb hs189 hr186 (hs189.rd0 hr191) hap193 (fun a195 n196 e197 w198 hs199 hr200 => ?_)
      refine Vs 1 <| Nt <| Rg (rG 6) <| Vs 3 ?_
      obtain ⟨r201, hr202, h203⟩ := bind_some h194
      obtain ⟨a204, n205, hb206, hs207, hrun208⟩ := D4 (P := Tryz.prog) (T := AK) (lo := (some (.tmp 58))) (hi := none) (mx := none) (t := 55) (E := 9) (by_ := 16) (c := ns29_0) (a := as29_0) (l := s29.1) (r := r201) (il := s79) (ih := (s29.1.length : Int)) (im := 0) (by kernel_rfl) (by kernel_rfl) hb169 hs168 (fun h => by first | rfl | cases h) hr202
      refine V 59 55 (hrun208 (x := (.tmp 57)) rfl rfl rfl trivial) ?_
      obtain ⟨r209, hap210, h211⟩ := bind_some h203
      refine Ap1 Rb hs199 hr200 (SlA.rd hs199 hs207) hap210 (fun a212 n213 e214 w215 hs216 hr217 => ?_)
      refine Vs 1 <| UY <| Aq <| Ab <| Rg [0, 1, 2] <| Vs 3 <| UY ?_
      have hn218 := AH h211 hnx48
      exact ⟨m45, Nat.lt_succ_self _, (r209, (W64 (s29.2 + 1))), F7, a212, n213, e214, hn218, hs216.dr0, (((le32.t le82).trans le131).trans le167), fI, hr217⟩
  ·refine Ex ?_
   refine Aj <| Aj <| Ay rfl ?_
   have ho219 := AG h51 hnx48
   exact .inl ⟨rfl, (s29.1, s29.2), F1, as29_0, ns29_0, es29_0, ho219, hs31.dr1, le32, fI, hrs29_0⟩
 ·rintro f w38 ⟨s37, F2, as37_0, ns37_0, es37_0, rfl, hs39, le40, ⟨_, rfl⟩, hrs37_0⟩
  have h220 := A0 h28
  refine Ab <| Sq (Rg [0, 1] ?_)
  refine Vs 2 <| Nt <| Rt ?_
  have hb224 := Vh hrs37_0
  obtain ⟨F8, hs221, le222, hs223⟩ := hs39.fr0 hrs37_0
  obtain rfl := Aa h220
  exact Re [(.slice as37_0 s37.1.length ns37_0)] hs221 ⟨as37_0, ns37_0, rfl, hb224, hs223⟩
def B8 (N : Nat) (x0 : Log) (x1 : (Line -> Option Int)) : (List Int × Int) -> Option (A8 (List Int) (List Int × Int)) := fun s29 =>
 (bif (decide (s29.2 < (x0.Lines.length : Int))) then ((idx x0.Lines s29.2).bind fun x54 => ((x1 x54).bind fun r73 => ((Cr s29.1 [r73]).bind fun r86 => some (.next (r86, (W64 (s29.2 + 1))))))) else some (.done (s29.1, s29.2)))
def D5 (N : Nat) (x0 : Log) (x1 : (Line -> Option Int)) : Option (List Int) :=
 ((AL (B8 N x0 x1) N (([] : List Int), 0)).bind fun o => o.k (fun r => some r) (fun s39 => some s39.1))
theorem Hk : Ad Tryz.prog 134 := fun _ _ => by kernel_rfl
theorem H8 (N : Nat) (w0 : World) (F0 : Mem) (hF : Vq w0 F0) (x0 : Log) (a0_4 : Vp) (n0_4 : Nat) (hb0_4 : LC x0.Jumps.length n0_4) (hs0_4 : SlA Az F0 a0_4 x0.Jumps) (a0_5 : Vp) (n0_5 : Nat) (hb0_5 : LC x0.Lines.length n0_5) (hs0_5 : SlA AD F0 a0_5 x0.Lines) (gx1 : FuncId) (fx1 kx1 : List Value) (x1 : Line -> Option Int) (hox1 : Ad Tryz.prog gx1) (hpx1 : QU F0 gx1 fx1 kx1 x1) (r : (List Int)) (h : D5 N x0 x1 = some r) :
  Calls Tryz.prog 134 ([(.agg (As x0 a0_4 n0_4 a0_5 n0_5)), (.func (.func gx1) fx1.toArray kx1.toArray)] : List Value).toArray w0 (AC w0 F0 fun F' v => ∃ (aq0_0 : Vp) (nq0_0 : Nat), v = (.slice aq0_0 r.length nq0_0) /\ LC r.length nq0_0 /\ SlA Az F' aq0_0 r) := by
 have hs0 := U4 hF
 refine Go 23 Tryz.func134 <| Sq (Rg [0, 1] ?_)
 refine Bx' 27 (As x0 a0_4 n0_4 a0_5 n0_5) hs0 (fun b21 w22 hs23 => ?_)
 refine Vs 1 <| Nss (Rg [0] ?_)
 refine Vs 1 <| Nss <| Sq (Rg (rG 4) ?_)
 refine Vs 1 <| Ld hs23.at0 <| Vs 2 <| Nt ?_
 have hs24 := hs23.dr0.dummy (oc #[] 0)
 obtain ⟨o26, ho27, h28⟩ := bind_some h
 refine U9 (fun f w => ∃ (s39 : (List Int × Int)) (F2 : Mem) (as39_0 : Vp) (ns39_0 : Nat) (es39_0 : Option Nat × Obj), o26 = .done s39 /\ HS w0 F0 w F2 [es39_0] /\ U2 F0 F2 /\ FI f [] [(5, (.slice as39_0 s39.1.length ns39_0))] /\ Am Az 3 F2 as39_0 ns39_0 s39.1 es39_0) ?_ ?_
 ·refine Bk ?_
  refine U1 (by kernel_rfl) (fun m f w => ∃ (s29 : (List Int × Int)) (F1 : Mem) (as29_0 : Vp) (ns29_0 : Nat) (es29_0 : Option Nat × Obj), AL (B8 N x0 x1) m s29 = some o26 /\ HS w0 F0 w F1 [es29_0] /\ U2 F0 F1 /\ FI f [] [(1, (.func (.func gx1) fx1.toArray kx1.toArray)), (5, (.slice as29_0 s29.1.length ns29_0)), (9, (.slice a0_5 x0.Lines.length n0_5)), (10, (vi (x0.Lines.length : Int))), (11, (vi s29.2))] /\ Am Az 3 F1 as29_0 ns29_0 s29.1 es29_0) N ⟨(([] : List Int), 0), F0, none, 0, (none, .cells #[] 0 (0, 0)), ho27, hs24, (U3 _), fI, (Vi Az 3 F0 _)⟩ ?_
  rintro m45 f w30 ⟨s29, F1, as29_0, ns29_0, es29_0, hit46, hs31, le32, ⟨_, rfl⟩, hrs29_0⟩
  obtain ⟨m47, fl48, rfl, hb49, hnx50⟩ := AF hit46
  refine Sq (Rg [0] ?_)
  refine Vs 1 <| Nss <| Cd hb49 (fun hb51 h52 => ?_) (fun hb51 h53 => ?_)
  ·refine Sc ?_
   refine Ab <| Sq <| Bk <| Sq (Rg (rG 4) ?_)
   obtain ⟨x54, hx55, h57⟩ := bind_some h52
   obtain ⟨hi56, hx55'⟩ := An hx55
   obtain ⟨b58, o59, C60, E61, fz62, rfl, hF64, hE65⟩ := Va (U5 hs0_5 le32) hx55'
   have hc67 := hE65 _ _ hx55'
   refine Ix hi56 <| Lx 0 (hs31.pers _ _ hF64) hc67 <| Al' 34 #[(vi 0), (vi 0), (vi 0), (vi 0), (sv (([] : Vo))), (vi 0), (vi 0), (vi 0), (vi 0), (vi 0), (vi 0)] hs31 (fun b68 w69 hs70 => ?_)
   refine St0 (Bo x54) hs70 (fun w71 hs72 => ?_)
   refine Nt <| Rg (rG 7) <| Vs 2 <| Ld hs72.at0 ?_
   obtain ⟨r73, hr74, h75⟩ := bind_some h57
   refine Cq hox1 hs72 (hpx1 w71 F1 x54 _ le32 hs72.pers hr74) ?_
   rintro _ F3 w77 hs78 le79 rfl
   refine Bs 3 [(vi r73)] hs78 (fun b81 w82 hs83 => ?_)
   have hr85 : Am Az 3 F3 (some ⟨b81, 0, none⟩) 1 [r73] (some b81, .cells ([(vi r73)] : List Value).toArray 3 (0, 0)) := Vj ⟨rfl, rfl⟩ (by simp)
   obtain ⟨r86, hap87, h88⟩ := bind_some h75
   refine Ap2 Pc hs83 (hrs29_0.mono le79) (hs83.rd0 hr85) hap87 (fun a89 n90 e91 w92 hs93 hr94 => ?_)
   refine Vs 1 <| UY <| Aq <| Ab <| Rg [0, 1] <| Vs 2 <| UY ?_
   have hn95 := AH h88 hnx50
   exact ⟨m47, Nat.lt_succ_self _, (r86, (W64 (s29.2 + 1))), F3, a89, n90, e91, hn95, hs93.dr0.dr0, (le32.t le79), fI, hr94⟩
  ·refine Ex ?_
   refine Aj <| Aj <| Ay rfl ?_
   have ho96 := AG h53 hnx50
   exact .inl ⟨rfl, (s29.1, s29.2), F1, as29_0, ns29_0, es29_0, ho96, hs31, le32, fI, hrs29_0⟩
 ·rintro f w40 ⟨s39, F2, as39_0, ns39_0, es39_0, rfl, hs41, le42, ⟨_, rfl⟩, hrs39_0⟩
  have h97 := A0 h28
  refine Ab <| Sq (Rg [0, 1] ?_)
  refine Vs 2 <| Nt <| Rt ?_
  have hb101 := Vh hrs39_0
  obtain ⟨F4, hs98, le99, hs100⟩ := hs41.fr0 hrs39_0
  obtain rfl := Aa h97
  exact Re [(.slice as39_0 s39.1.length ns39_0)] hs98 ⟨as39_0, ns39_0, rfl, hb101, hs100⟩
def GV (N : Nat) (x0 : Line) : Option Int :=
 some x0.Minute
theorem LS : Ad Tryz.prog 135 := fun _ _ => by kernel_rfl
theorem M8 (N : Nat) (w0 : World) (F0 : Mem) (hF : Vq w0 F0) (x0 : Line) (r : Int) (h : GV N x0 = some r) :
  Calls Tryz.prog 135 ([(.agg (Bo x0))] : List Value).toArray w0 (AC w0 F0 fun F' v => v = (vi r)) := by
 have hs0 := U4 hF
 refine Go 5 Tryz.func135 <| Sq (Rg [0, 1] ?_)
 refine Bx' 34 (Bo x0) hs0 (fun b21 w22 hs23 => ?_)
 refine Vs 1 <| Nss (Rg [0, 1, 2] ?_)
 refine Vs 1 <| Ld hs23.at0 <| Vs 1 <| Nt <| Rt ?_
 obtain rfl := Aa h
 exact Re [(vi x0.Minute)] hs23 rfl
def GW (N : Nat) (x0 : Log) : Option (List Int) :=
 ((D5 N x0 (fun y0 => GV N y0)).bind fun r24 => some r24)
theorem Nr : Ad Tryz.prog 67 := fun _ _ => by kernel_rfl
theorem OP (N : Nat) (w0 : World) (F0 : Mem) (hF : Vq w0 F0) (x0 : Log) (a0_4 : Vp) (n0_4 : Nat) (hb0_4 : LC x0.Jumps.length n0_4) (hs0_4 : SlA Az F0 a0_4 x0.Jumps) (a0_5 : Vp) (n0_5 : Nat) (hb0_5 : LC x0.Lines.length n0_5) (hs0_5 : SlA AD F0 a0_5 x0.Lines) (r : (List Int)) (h : GW N x0 = some r) :
  Calls Tryz.prog 67 ([(.agg (As x0 a0_4 n0_4 a0_5 n0_5))] : List Value).toArray w0 (AC w0 F0 fun F' v => ∃ (aq0_0 : Vp) (nq0_0 : Nat), v = (.slice aq0_0 r.length nq0_0) /\ LC r.length nq0_0 /\ SlA Az F' aq0_0 r) := by
 have hs0 := U4 hF
 refine Go 5 Tryz.func67 <| Sq (Rg [0, 1] ?_)
 refine Bx' 27 (As x0 a0_4 n0_4 a0_5 n0_5) hs0 (fun b21 w22 hs23 => ?_)
 refine Vs 1 <| Nss (Rg [0, 1, 2] ?_)
 refine Ld hs23.at0 ?_
 obtain ⟨r24, hr25, h26⟩ := bind_some h
 refine Cl' Hk hs23 (H8 N w22 F0 hs23.pers x0 a0_4 n0_4 hb0_4 hs0_4 a0_5 n0_5 hb0_5 hs0_5 135 [] [] (fun y0 => GV N y0) LS (fun w1 F1 y0 r le1 pe1 hr1 => M8 N w1 F1 pe1  y0  r hr1) _ hr25) ?_
 rintro _ F1 w28 hs29 le30 ⟨ar24_0_0, nr24_0_0, rfl, hbr24_0_0, hsr24_0_0⟩
 refine Vs 1 <| Nt <| Rt ?_
 obtain rfl := Aa h26
 exact Re [(.slice ar24_0_0 r24.length nr24_0_0)] hs29 ⟨ar24_0_0, nr24_0_0, rfl, hbr24_0_0, hsr24_0_0⟩
def D2 (N : Nat) (x0 : Log) : (List Int × Int) -> Option (A8 (List Int) (List Int × Int)) := fun s29 =>
 (bif (decide (s29.2 < (x0.Lines.length : Int))) then ((idx x0.Lines s29.2).bind fun x52 => ((Cr s29.1 [x52.Minute]).bind fun r71 => some (.next (r71, (W64 (s29.2 + 1)))))) else some (.done (s29.1, s29.2)))
def FG (N : Nat) (x0 : Log) : Option (List Int) :=
 ((AL (D2 N x0) N (([] : List Int), 0)).bind fun o => o.k (fun r => some r) (fun s37 => some s37.1))
theorem MP : Ad Tryz.prog 68 := fun _ _ => by kernel_rfl
theorem Nw (N : Nat) (w0 : World) (F0 : Mem) (hF : Vq w0 F0) (x0 : Log) (a0_4 : Vp) (n0_4 : Nat) (hb0_4 : LC x0.Jumps.length n0_4) (hs0_4 : SlA Az F0 a0_4 x0.Jumps) (a0_5 : Vp) (n0_5 : Nat) (hb0_5 : LC x0.Lines.length n0_5) (hs0_5 : SlA AD F0 a0_5 x0.Lines) (r : (List Int)) (h : FG N x0 = some r) :
  Calls Tryz.prog 68 ([(.agg (As x0 a0_4 n0_4 a0_5 n0_5))] : List Value).toArray w0 (AC w0 F0 fun F' v => ∃ (aq0_0 : Vp) (nq0_0 : Nat), v = (.slice aq0_0 r.length nq0_0) /\ LC r.length nq0_0 /\ SlA Az F' aq0_0 r) := by
 have hs0 := U4 hF
 refine Go 22 Tryz.func68 <| Sq (Rg [0, 1] ?_)
 refine Bx' 27 (As x0 a0_4 n0_4 a0_5 n0_5) hs0 (fun b21 w22 hs23 => ?_)
 refine Vs 1 <| Nss (Rg [0] ?_)
 refine Vs 1 <| Nss <| Sq (Rg [0] ?_)
 refine Vs 1 <| Nt ?_
 have hs24 := hs23.dummy (oc #[] 0)
 obtain ⟨o26, ho27, h28⟩ := bind_some h
 refine U9 (fun f w => ∃ (s37 : (List Int × Int)) (F2 : Mem) (as37_0 : Vp) (ns37_0 : Nat) (es37_0 : Option Nat × Obj), o26 = .done s37 /\ HS w0 F0 w F2 [es37_0] /\ U2 F0 F2 /\ FI f [] [(3, (.slice as37_0 s37.1.length ns37_0))] /\ Am Az 3 F2 as37_0 ns37_0 s37.1 es37_0) ?_ ?_
 ·refine Bk ?_
  refine U1 (by kernel_rfl) (fun m f w => ∃ (s29 : (List Int × Int)) (F1 : Mem) (as29_0 : Vp) (ns29_0 : Nat) (es29_0 : Option Nat × Obj), AL (D2 N x0) m s29 = some o26 /\ HS w0 F0 w F1 [es29_0, (sb b21 (As x0 a0_4 n0_4 a0_5 n0_5) 27)] /\ U2 F0 F1 /\ FI f [] [(1, (pt b21 0)), (3, (.slice as29_0 s29.1.length ns29_0)), (4, (vi s29.2))] /\ Am Az 3 F1 as29_0 ns29_0 s29.1 es29_0) N ⟨(([] : List Int), 0), F0, none, 0, (none, .cells #[] 0 (0, 0)), ho27, hs24, (U3 _), fI, (Vi Az 3 F0 _)⟩ ?_
  rintro m43 f w30 ⟨s29, F1, as29_0, ns29_0, es29_0, hit44, hs31, le32, ⟨_, rfl⟩, hrs29_0⟩
  obtain ⟨m45, fl46, rfl, hb47, hnx48⟩ := AF hit44
  refine Sq <| Sq (Rg (rG 5) ?_)
  refine Vs 2 <| Ld hs31.at1 <| Vs 2 <| Nt <| Cd hb47 (fun hb49 h50 => ?_) (fun hb49 h51 => ?_)
  ·refine Sc ?_
   refine Ab <| Sq <| Bk <| Rg (rG 10) <| Vs 2 <| Ld hs31.at1 <| Vs 1 ?_
   obtain ⟨x52, hx53, h55⟩ := bind_some h50
   obtain ⟨hi54, hx53'⟩ := An hx53
   obtain ⟨b56, o57, C58, E59, fz60, rfl, hF62, hE63⟩ := Va (U5 hs0_5 le32) hx53'
   have hc65 := hE63 _ _ hx53'
   refine Ix hi54 <| Vs 1 <| Lx 3 (hs31.pers _ _ hF62) hc65 <| Bs 3 [(vi x52.Minute)] hs31 (fun b66 w67 hs68 => ?_)
   have hr70 : Am Az 3 F1 (some ⟨b66, 0, none⟩) 1 [x52.Minute] (some b66, .cells ([(vi x52.Minute)] : List Value).toArray 3 (0, 0)) := Vj ⟨rfl, rfl⟩ (by simp)
   obtain ⟨r71, hap72, h73⟩ := bind_some h55
   refine Ap1 Pc hs68 hrs29_0 (hs68.rd0 hr70) hap72 (fun a74 n75 e76 w77 hs78 hr79 => ?_)
   refine Vs 1 <| UY <| Aq <| Ab <| Rg [0, 1, 2] <| Vs 3 <| UY ?_
   have hn80 := AH h73 hnx48
   exact ⟨m45, Nat.lt_succ_self _, (r71, (W64 (s29.2 + 1))), F1, a74, n75, e76, hn80, hs78.dr0, le32, fI, hr79⟩
  ·refine Ex ?_
   refine Aj <| Aj <| Ay rfl ?_
   have ho81 := AG h51 hnx48
   exact .inl ⟨rfl, (s29.1, s29.2), F1, as29_0, ns29_0, es29_0, ho81, hs31.dr1, le32, fI, hrs29_0⟩
 ·rintro f w38 ⟨s37, F2, as37_0, ns37_0, es37_0, rfl, hs39, le40, ⟨_, rfl⟩, hrs37_0⟩
  have h82 := A0 h28
  refine Ab <| Sq (Rg [0, 1] ?_)
  refine Vs 2 <| Nt <| Rt ?_
  have hb86 := Vh hrs37_0
  obtain ⟨F3, hs83, le84, hs85⟩ := hs39.fr0 hrs37_0
  obtain rfl := Aa h82
  exact Re [(.slice as37_0 s37.1.length ns37_0)] hs83 ⟨as37_0, ns37_0, rfl, hb86, hs85⟩
def Fl (N : Nat) (x0 : Line) : Option Int :=
 some x0.Sent.Serial
theorem JY : Ad Tryz.prog 136 := fun _ _ => by kernel_rfl
theorem KP (N : Nat) (w0 : World) (F0 : Mem) (hF : Vq w0 F0) (x0 : Line) (r : Int) (h : Fl N x0 = some r) :
  Calls Tryz.prog 136 ([(.agg (Bo x0))] : List Value).toArray w0 (AC w0 F0 fun F' v => v = (vi r)) := by
 have hs0 := U4 hF
 refine Go 6 Tryz.func136 <| Sq (Rg [0, 1] ?_)
 refine Bx' 34 (Bo x0) hs0 (fun b21 w22 hs23 => ?_)
 refine Vs 1 <| Nss (Rg (rG 4) ?_)
 refine Vs 2 <| Ld hs23.at0 <| Vs 1 <| Nt <| Rt ?_
 obtain rfl := Aa h
 exact Re [(vi x0.Sent.Serial)] hs23 rfl
def E1 (N : Nat) (x0 : Log) : Option (List Int) :=
 ((D5 N x0 (fun y0 => Fl N y0)).bind fun r24 => some r24)
theorem LT : Ad Tryz.prog 69 := fun _ _ => by kernel_rfl
theorem M9 (N : Nat) (w0 : World) (F0 : Mem) (hF : Vq w0 F0) (x0 : Log) (a0_4 : Vp) (n0_4 : Nat) (hb0_4 : LC x0.Jumps.length n0_4) (hs0_4 : SlA Az F0 a0_4 x0.Jumps) (a0_5 : Vp) (n0_5 : Nat) (hb0_5 : LC x0.Lines.length n0_5) (hs0_5 : SlA AD F0 a0_5 x0.Lines) (r : (List Int)) (h : E1 N x0 = some r) :
  Calls Tryz.prog 69 ([(.agg (As x0 a0_4 n0_4 a0_5 n0_5))] : List Value).toArray w0 (AC w0 F0 fun F' v => ∃ (aq0_0 : Vp) (nq0_0 : Nat), v = (.slice aq0_0 r.length nq0_0) /\ LC r.length nq0_0 /\ SlA Az F' aq0_0 r) := by
 have hs0 := U4 hF
 refine Go 5 Tryz.func69 <| Sq (Rg [0, 1] ?_)
 refine Bx' 27 (As x0 a0_4 n0_4 a0_5 n0_5) hs0 (fun b21 w22 hs23 => ?_)
 refine Vs 1 <| Nss (Rg [0, 1, 2] ?_)
 refine Ld hs23.at0 ?_
 obtain ⟨r24, hr25, h26⟩ := bind_some h
 refine Cl' Hk hs23 (H8 N w22 F0 hs23.pers x0 a0_4 n0_4 hb0_4 hs0_4 a0_5 n0_5 hb0_5 hs0_5 136 [] [] (fun y0 => Fl N y0) JY (fun w1 F1 y0 r le1 pe1 hr1 => KP N w1 F1 pe1  y0  r hr1) _ hr25) ?_
 rintro _ F1 w28 hs29 le30 ⟨ar24_0_0, nr24_0_0, rfl, hbr24_0_0, hsr24_0_0⟩
 refine Vs 1 <| Nt <| Rt ?_
 obtain rfl := Aa h26
 exact Re [(.slice ar24_0_0 r24.length nr24_0_0)] hs29 ⟨ar24_0_0, nr24_0_0, rfl, hbr24_0_0, hsr24_0_0⟩
def Dd (N : Nat) (x0 : Log) : (List Int × Int) -> Option (A8 (List Int) (List Int × Int)) := fun s29 =>
 (bif (decide (s29.2 < (x0.Lines.length : Int))) then ((idx x0.Lines s29.2).bind fun x52 => ((Cr s29.1 [x52.Sent.Serial]).bind fun r71 => some (.next (r71, (W64 (s29.2 + 1)))))) else some (.done (s29.1, s29.2)))
def Eu (N : Nat) (x0 : Log) : Option (List Int) :=
 ((AL (Dd N x0) N (([] : List Int), 0)).bind fun o => o.k (fun r => some r) (fun s37 => some s37.1))
theorem Kz : Ad Tryz.prog 70 := fun _ _ => by kernel_rfl
theorem LY (N : Nat) (w0 : World) (F0 : Mem) (hF : Vq w0 F0) (x0 : Log) (a0_4 : Vp) (n0_4 : Nat) (hb0_4 : LC x0.Jumps.length n0_4) (hs0_4 : SlA Az F0 a0_4 x0.Jumps) (a0_5 : Vp) (n0_5 : Nat) (hb0_5 : LC x0.Lines.length n0_5) (hs0_5 : SlA AD F0 a0_5 x0.Lines) (r : (List Int)) (h : Eu N x0 = some r) :
  Calls Tryz.prog 70 ([(.agg (As x0 a0_4 n0_4 a0_5 n0_5))] : List Value).toArray w0 (AC w0 F0 fun F' v => ∃ (aq0_0 : Vp) (nq0_0 : Nat), v = (.slice aq0_0 r.length nq0_0) /\ LC r.length nq0_0 /\ SlA Az F' aq0_0 r) := by
 have hs0 := U4 hF
 refine Go 23 Tryz.func70 <| Sq (Rg [0, 1] ?_)
 refine Bx' 27 (As x0 a0_4 n0_4 a0_5 n0_5) hs0 (fun b21 w22 hs23 => ?_)
 refine Vs 1 <| Nss (Rg [0] ?_)
 refine Vs 1 <| Nss <| Sq (Rg [0] ?_)
 refine Vs 1 <| Nt ?_
 have hs24 := hs23.dummy (oc #[] 0)
 obtain ⟨o26, ho27, h28⟩ := bind_some h
 refine U9 (fun f w => ∃ (s37 : (List Int × Int)) (F2 : Mem) (as37_0 : Vp) (ns37_0 : Nat) (es37_0 : Option Nat × Obj), o26 = .done s37 /\ HS w0 F0 w F2 [es37_0] /\ U2 F0 F2 /\ FI f [] [(3, (.slice as37_0 s37.1.length ns37_0))] /\ Am Az 3 F2 as37_0 ns37_0 s37.1 es37_0) ?_ ?_
 ·refine Bk ?_
  refine U1 (by kernel_rfl) (fun m f w => ∃ (s29 : (List Int × Int)) (F1 : Mem) (as29_0 : Vp) (ns29_0 : Nat) (es29_0 : Option Nat × Obj), AL (Dd N x0) m s29 = some o26 /\ HS w0 F0 w F1 [es29_0, (sb b21 (As x0 a0_4 n0_4 a0_5 n0_5) 27)] /\ U2 F0 F1 /\ FI f [] [(1, (pt b21 0)), (3, (.slice as29_0 s29.1.length ns29_0)), (4, (vi s29.2))] /\ Am Az 3 F1 as29_0 ns29_0 s29.1 es29_0) N ⟨(([] : List Int), 0), F0, none, 0, (none, .cells #[] 0 (0, 0)), ho27, hs24, (U3 _), fI, (Vi Az 3 F0 _)⟩ ?_
  rintro m43 f w30 ⟨s29, F1, as29_0, ns29_0, es29_0, hit44, hs31, le32, ⟨_, rfl⟩, hrs29_0⟩
  obtain ⟨m45, fl46, rfl, hb47, hnx48⟩ := AF hit44
  refine Sq <| Sq (Rg (rG 5) ?_)
  refine Vs 2 <| Ld hs31.at1 <| Vs 2 <| Nt <| Cd hb47 (fun hb49 h50 => ?_) (fun hb49 h51 => ?_)
  ·refine Sc ?_
   refine Ab <| Sq <| Bk <| Rg (rG 11) <| Vs 2 <| Ld hs31.at1 <| Vs 1 ?_
   obtain ⟨x52, hx53, h55⟩ := bind_some h50
   obtain ⟨hi54, hx53'⟩ := An hx53
   obtain ⟨b56, o57, C58, E59, fz60, rfl, hF62, hE63⟩ := Va (U5 hs0_5 le32) hx53'
   have hc65 := hE63 _ _ hx53'
   refine Ix hi54 <| Vs 2 <| Lx 6 (hs31.pers _ _ hF62) hc65 <| Bs 3 [(vi x52.Sent.Serial)] hs31 (fun b66 w67 hs68 => ?_)
   have hr70 : Am Az 3 F1 (some ⟨b66, 0, none⟩) 1 [x52.Sent.Serial] (some b66, .cells ([(vi x52.Sent.Serial)] : List Value).toArray 3 (0, 0)) := Vj ⟨rfl, rfl⟩ (by simp)
   obtain ⟨r71, hap72, h73⟩ := bind_some h55
   refine Ap1 Pc hs68 hrs29_0 (hs68.rd0 hr70) hap72 (fun a74 n75 e76 w77 hs78 hr79 => ?_)
   refine Vs 1 <| UY <| Aq <| Ab <| Rg [0, 1, 2] <| Vs 3 <| UY ?_
   have hn80 := AH h73 hnx48
   exact ⟨m45, Nat.lt_succ_self _, (r71, (W64 (s29.2 + 1))), F1, a74, n75, e76, hn80, hs78.dr0, le32, fI, hr79⟩
  ·refine Ex ?_
   refine Aj <| Aj <| Ay rfl ?_
   have ho81 := AG h51 hnx48
   exact .inl ⟨rfl, (s29.1, s29.2), F1, as29_0, ns29_0, es29_0, ho81, hs31.dr1, le32, fI, hrs29_0⟩
 ·rintro f w38 ⟨s37, F2, as37_0, ns37_0, es37_0, rfl, hs39, le40, ⟨_, rfl⟩, hrs37_0⟩
  have h82 := A0 h28
  refine Ab <| Sq (Rg [0, 1] ?_)
  refine Vs 2 <| Nt <| Rt ?_
  have hb86 := Vh hrs37_0
  obtain ⟨F3, hs83, le84, hs85⟩ := hs39.fr0 hrs37_0
  obtain rfl := Aa h82
  exact Re [(.slice as37_0 s37.1.length ns37_0)] hs83 ⟨as37_0, ns37_0, rfl, hb86, hs85⟩
def DJ (N : Nat) (x0 : Log) (x1 : Log) (x2 : BJ) : Option Bool :=
 ((HN N ).bind fun r30 => ((bif (decide ((x0.Lines.length : Int) > 60)) then some true else (bif (decide ((x1.Lines.length : Int) > 60)) then some true else ((FR N x0.Lines).bind fun r56 => (bif (!r56) then some true else some (decide ((x2.Call.length : Int) > 40)))))).bind fun j41 => (bif j41 then some r30 else ((GX N x0 x2.Num).bind fun r70 => ((FJ N x0 x2.Num).bind fun r78 => ((bif (r70.1 != r78.1) then some true else (bif (r70.2 != r78.2) then some true else ((L9 N x0 x2.Call).bind fun r105 => ((Jx N x0 x2.Call).bind fun r113 => ((BP N r105 r113).bind fun r121 => (bif (!r121) then some true else ((E3 N x0 x2.Span).bind fun r132 => ((Ev N x0 x2.Span).bind fun r140 => ((BP N r132 r140).bind fun r148 => some (!r148)))))))))).bind fun j91 => (bif j91 then some false else (((Ey N x0).bind fun r172 => ((D3 N x0).bind fun r180 => ((DH N r172 r180).bind fun r188 => (bif (!r188) then some true else ((GW N x0).bind fun r199 => ((FG N x0).bind fun r207 => ((BP N r199 r207).bind fun r215 => (bif (!r215) then some true else ((E1 N x0).bind fun r226 => ((Eu N x0).bind fun r234 => ((BP N r226 r234).bind fun r242 => some (!r242)))))))))))).bind fun j164 => (bif j164 then some false else ((bif r30 then ((Gz N x0 x1).bind fun r266 => ((Fg N x0 x1).bind fun r274 => (bif (r266 == r274) then ((Gz N x0 x0).bind fun r285 => some r285) else some false))) else some false).bind fun j258 => some j258))))))))))
theorem Kd (N : Nat) (w0 : World) (F0 : Mem) (hF : Vq w0 F0) (hG : Bu F0) (x0 : Log) (a0_4 : Vp) (n0_4 : Nat) (hb0_4 : LC x0.Jumps.length n0_4) (hs0_4 : SlA Az F0 a0_4 x0.Jumps) (a0_5 : Vp) (n0_5 : Nat) (hb0_5 : LC x0.Lines.length n0_5) (hs0_5 : SlA AD F0 a0_5 x0.Lines) (x1 : Log) (a1_4 : Vp) (n1_4 : Nat) (hb1_4 : LC x1.Jumps.length n1_4) (hs1_4 : SlA Az F0 a1_4 x1.Jumps) (a1_5 : Vp) (n1_5 : Nat) (hb1_5 : LC x1.Lines.length n1_5) (hs1_5 : SlA AD F0 a1_5 x1.Lines) (x2 : BJ) (r : Bool) (h : DJ N x0 x1 x2 = some r) :
  Calls Tryz.prog 18 ([(.agg (As x0 a0_4 n0_4 a0_5 n0_5)), (.agg (As x1 a1_4 n1_4 a1_5 n1_5)), (.agg (CX x2))] : List Value).toArray w0 (AC w0 F0 fun F' v => v = (.bool r)) := by
 have hs0 := U4 hF
 refine Go 119 Tryz.func18 <| Sq (Rg (rG 4) ?_)
 refine Bx' 27 (As x0 a0_4 n0_4 a0_5 n0_5) hs0 (fun b21 w22 hs23 => ?_)
 refine Bx' 27 (As x1 a1_4 n1_4 a1_5 n1_5) hs23 (fun b24 w25 hs26 => ?_)
 refine Bx' 82 (CX x2) hs26 (fun b27 w28 hs29 => ?_)
 refine Vs 1 <| Nss (Rg [0, 1] ?_)
 obtain ⟨r30, hr31, h32⟩ := bind_some h
 refine Cl' MV hs29 (NC N w28 F0 hs29.pers hG  _ hr31) ?_
 rintro _ F1 w34 hs35 le36 rfl
 refine Vs 1 <| Nss <| Sq (Rg (rG 22) ?_)
 obtain ⟨j41, hj48, h49⟩ := bind_some h32
 refine U8 (fun f w => ∃ (F2 : Mem), HS w0 F0 w F2 [(sb b27 (CX x2) 82), (sb b24 (As x1 a1_4 n1_4 a1_5 n1_5) 27), (sb b21 (As x0 a0_4 n0_4 a0_5 n0_5) 27)] /\ U2 F1 F2 /\ FI f [] [(3, (pt b21 0)), (4, (pt b24 0)), (5, (pt b27 0)), (7, (.bool r30)), (34, (.bool j41))]) ?_ ?_
 ·refine Vs 1 ?_
  refine Ld hs35.at2 <| Vs 3 <| Sp hj48 (fun hb50 h51 => ?_) (fun hb50 h52 => ?_)
  ·refine Ss hb50 4 ?_
   refine Pk1 hb50 <| Vs 1 <| Ss (rfl : true = true) 4 <| Pk1 (rfl : true = true) <| Vs 1 <| Ss (rfl : true = true) 4 <| Pk1 (rfl : true = true) ?_
   obtain rfl := Aa h51
   exact UY ⟨rfl, F1, hs35, (U3 _), fI⟩
  ·refine Vgs hb50 1 ?_
   refine Lg hb50 hs35.at1 <| Vgs hb50 2 <| Pk0 hb50 <| Vs 1 <| Sp h52 (fun hb53 h54 => ?_) (fun hb53 h55 => ?_)
   ·refine Ss hb53 4 ?_
    refine Pk1 hb53 <| Vs 1 <| Ss (rfl : true = true) 4 <| Pk1 (rfl : true = true) ?_
    obtain rfl := Aa h54
    exact UY ⟨rfl, F1, hs35, (U3 _), fI⟩
   ·refine Vgs hb53 1 ?_
    refine Lg hb53 hs35.at2 ?_
    obtain ⟨r56, hr57, h58⟩ := bind_some h55
    refine Cg hb53 MU hs35 (NB N w34 F1 hs35.pers x0.Lines a0_5 n0_5 hb0_5 (U5 hs0_5 le36) _ hr57) ?_
    rintro _ F3 w60 hs61 le62 rfl
    refine Vgs hb53 1 <| Pk0 hb53 <| Vs 1 <| Sp h58 (fun hb64 h65 => ?_) (fun hb64 h66 => ?_)
    ·refine Ss hb64 4 ?_
     refine Pk1 hb64 ?_
     obtain rfl := Aa h65
     exact UY ⟨rfl, F3, hs61, le62, fI⟩
    ·refine Vgs hb64 1 ?_
     refine Lg hb64 hs61.at0 <| Vgs hb64 2 <| Pk0 hb64 ?_
     obtain rfl := Aa h66
     exact UY ⟨rfl, F3, hs61, le62, fI⟩
 ·rintro f w38 ⟨F2, hs39, le40, ⟨_, rfl⟩⟩
  refine Ab <| Cd h49 (fun hb67 h68 => ?_) (fun hb67 h69 => ?_)
  ·refine Sq (Rg [0, 1] ?_)
   refine Vs 2 <| Nt <| Rt <| Af ?_
   obtain rfl := Aa h68
   exact Re [(.bool r30)] hs39 rfl
  ·refine Sc ?_
   refine Ab <| Sq (Rg (rG 9) ?_)
   refine Ld hs39.at2 <| Vs 1 <| Ld hs39.at0 ?_
   obtain ⟨r70, hr71, h72⟩ := bind_some h69
   refine Cl' Nu hs39 (OR N w38 F2 hs39.pers x0 a0_4 n0_4 hb0_4 (U5 hs0_4 (le36.t le40)) a0_5 n0_5 hb0_5 (U5 hs0_5 (le36.t le40)) x2.Num _ hr71) ?_
   rintro _ F4 w74 hs75 le76 rfl
   refine Vs 5 <| Nss (Rg (rG 9) ?_)
   refine Ld hs75.at2 <| Vs 1 <| Ld hs75.at0 ?_
   obtain ⟨r78, hr79, h80⟩ := bind_some h72
   refine Cl' MQ hs75 (Nx N w74 F4 hs75.pers x0 a0_4 n0_4 hb0_4 (U5 hs0_4 ((le36.t le40).trans le76)) a0_5 n0_5 hb0_5 (U5 hs0_5 ((le36.t le40).trans le76)) x2.Num _ hr79) ?_
   rintro _ F5 w82 hs83 le84 rfl
   refine Vs 5 <| Nss <| Sq ?_
   obtain ⟨j91, hj97, h98⟩ := bind_some h80
   refine RD 32 32 [(sb b27 (CX x2) 82), (sb b24 (As x1 a1_4 n1_4 a1_5 n1_5) 27), (sb b21 (As x0 a0_4 n0_4 a0_5 n0_5) 27)] [] hs83 (fun f w => ∃ (F6 : Mem), HS w0 F0 w F6 [(sb b24 (As x1 a1_4 n1_4 a1_5 n1_5) 27), (sb b21 (As x0 a0_4 n0_4 a0_5 n0_5) 27)] /\ U2 F5 F6 /\ FI f [] [(3, (pt b21 0)), (4, (pt b24 0)), (7, (.bool r30)), (81, (.bool j91))]) (fun wd86 hw87 => ?_) ?_
   ·refine Dvl [0, 1, 2, 3] (tf 4 28) ?_
    refine Sd hj97 (fun hb99 h100 => ?_) (fun hb99 h101 => ?_)
    ·refine Dkl [(4, 54), (5, 55), (6, 56)] 3 false 53 hb99 (tf 7 25) ?_
     refine Dtl 7 57 4 _ (tf 8 24) (fun _ hq => p1 53 (.const (.bool true)) (.tmp 56) (.bool true) hb99) <| Dvl [8] (tf 9 23) <| Dkl [(9, 59), (10, 60), (11, 61), (12, 62), (13, 63), (14, 64)] 8 false 58 rfl (tf 15 17) <| Dkl [(15, 65), (16, 66), (17, 67), (18, 68)] 8 false 58 rfl (tf 19 13) <| Dtl 19 69 4 _ (tf 20 12) (fun _ hq => p1 58 (.const (.bool true)) (.tmp 68) (.bool true) rfl) <| Dvl [20] (tf 21 11) <| Dkl [(21, 71), (22, 72), (23, 73), (24, 74), (25, 75), (26, 76)] 20 false 70 rfl (tf 27 5) <| Dkl [(27, 77), (28, 78), (29, 79), (30, 80)] 20 false 70 rfl (tf 31 1) <| Dtl 31 81 4 _ (tf 32 0) (fun _ hq => p1 70 (.const (.bool true)) (.tmp 80) (.bool true) rfl) ?_
     obtain rfl := Aa h100
     exact Vf (by kernel_rfl) ⟨F5, hw87.dr0, (U3 _), fI⟩
    ·refine Dgl 4 54 35 _ (tf 5 27) 3 false 53 hb99 (fun _ hq => mv 9 (vi r70.2)) ?_
     refine Dgl 5 55 35 _ (tf 6 26) 3 false 53 hb99 (fun _ hq => mv 11 (vi r78.2)) <| Dgl 6 56 4 (.bool (r70.2 != r78.2)) (tf 7 25) 3 false 53 hb99 (fun _ hq => Ju (t := 35) (t' := 35) (x := (.tmp 54)) (y := (.tmp 55)) (k := .i64) (a := r70.2) (b := r78.2) rfl rfl) <| Dtl 7 57 4 _ (tf 8 24) (fun _ hq => p0 53 (.const (.bool true)) (.tmp 56) (.bool (r70.2 != r78.2)) hb99) <| Dvl [8] (tf 9 23) <| Sd h101 (fun hb102 h103 => ?_) (fun hb102 h104 => ?_)
     ·refine Dkl [(9, 59), (10, 60), (11, 61), (12, 62), (13, 63), (14, 64)] 8 false 58 hb102 (tf 15 17) ?_
      refine Dkl [(15, 65), (16, 66), (17, 67), (18, 68)] 8 false 58 hb102 (tf 19 13) <| Dtl 19 69 4 _ (tf 20 12) (fun _ hq => p1 58 (.const (.bool true)) (.tmp 68) (.bool true) hb102) <| Dvl [20] (tf 21 11) <| Dkl [(21, 71), (22, 72), (23, 73), (24, 74), (25, 75), (26, 76)] 20 false 70 rfl (tf 27 5) <| Dkl [(27, 77), (28, 78), (29, 79), (30, 80)] 20 false 70 rfl (tf 31 1) <| Dtl 31 81 4 _ (tf 32 0) (fun _ hq => p1 70 (.const (.bool true)) (.tmp 80) (.bool true) rfl) ?_
      obtain rfl := Aa h103
      exact Vf (by kernel_rfl) ⟨F5, hw87.dr0, (U3 _), fI⟩
     ·refine Dgl 9 59 27 _ (tf 10 22) 8 false 58 hb102 (fun _ hq => ld 27 3 b21 0 true 6 (.agg (As x0 a0_4 n0_4 a0_5 n0_5)) (hq.1.2 2 _ _ rfl)) ?_
      refine Dgl 10 60 0 (pt b27 1) (tf 11 21) 8 false 58 hb102 (fun _ hq => fa 82 5 1 1 1 b27 0 1) <| Dgl 11 61 9 _ (tf 12 20) 8 false 58 hb102 (fun _ hq => ld 9 60 b27 1 false 1 (sv x2.Call) (hq.1.2 0 _ _ rfl)) <| Dgl 13 63 27 _ [tt, tt, tt, tt, tt, tt, tt, tt, tt, tt, tt, tt, ff, tt, ff, ff, ff, ff, ff, ff, ff, ff, ff, ff, ff, ff, ff, ff, ff, ff, ff, ff] 8 false 58 hb102 (fun _ hq => ld 27 3 b21 0 true 6 (.agg (As x0 a0_4 n0_4 a0_5 n0_5)) (hq.1.2 2 _ _ rfl)) <| Dgl 14 64 0 (pt b27 1) [tt, tt, tt, tt, tt, tt, tt, tt, tt, tt, tt, tt, ff, tt, tt, ff, ff, ff, ff, ff, ff, ff, ff, ff, ff, ff, ff, ff, ff, ff, ff, ff] 8 false 58 hb102 (fun _ hq => fa 82 5 1 1 1 b27 0 1) <| Dgl 15 65 9 _ [tt, tt, tt, tt, tt, tt, tt, tt, tt, tt, tt, tt, ff, tt, tt, tt, ff, ff, ff, ff, ff, ff, ff, ff, ff, ff, ff, ff, ff, ff, ff, ff] 8 false 58 hb102 (fun _ hq => ld 9 64 b27 1 false 1 (sv x2.Call) (hq.1.2 0 _ _ rfl)) <| D1 12 ?_
      obtain ⟨r105, hr106, h107⟩ := bind_some h104
      refine Ve (l' := [true, true, true, true, true, true, true, true, true, true, true, true, true, true, true, true, false, false, false, false, false, false, false, false, false, false, false, false, false, false, false, false]) (zd := true) (by kernel_rfl) (by kernel_rfl) (by kernel_rfl) (dst := (some 62)) (ty := 24) (g := (some (8, false))) (by kernel_rfl) (DE (d := 58) (by kernel_rfl) rfl hb102) (f0 := (.func 59)) (aos := #[(.tmp 59), (.tmp 61)]) (ats := #[27, 9]) (fid := 59) (first := #[]) (cap := #[]) (args := [(.agg (As x0 a0_4 n0_4 a0_5 n0_5)), (sv x2.Call)]) rfl Ql rfl hw87 (Rw N wd86 F5 hw87.pers x0 a0_4 n0_4 hb0_4 (U5 hs0_4 (((le36.t le40).trans le76).trans le84)) a0_5 n0_5 hb0_5 (U5 hs0_5 (((le36.t le40).trans le76).trans le84)) x2.Call _ hr106) ?_
      rintro _ F7 w109 hs110 le111 ⟨ar105_0_0, nr105_0_0, rfl, hbr105_0_0, hsr105_0_0⟩
      refine D1 16 ?_
      obtain ⟨r113, hr114, h115⟩ := bind_some h107
      refine Ve (l' := [true, true, true, true, true, true, true, true, true, true, true, true, true, true, true, true, true, false, false, false, false, false, false, false, false, false, false, false, false, false, false, false]) (zd := true) (by kernel_rfl) (by kernel_rfl) (by kernel_rfl) (dst := (some 66)) (ty := 24) (g := (some (8, false))) (by kernel_rfl) (DE (d := 58) (by kernel_rfl) rfl hb102) (f0 := (.func 63)) (aos := #[(.tmp 63), (.tmp 65)]) (ats := #[27, 9]) (fid := 63) (first := #[]) (cap := #[]) (args := [(.agg (As x0 a0_4 n0_4 a0_5 n0_5)), (sv x2.Call)]) rfl Pv rfl hs110 (Qm N w109 F7 hs110.pers x0 a0_4 n0_4 hb0_4 (U5 hs0_4 ((((le36.t le40).trans le76).trans le84).trans le111)) a0_5 n0_5 hb0_5 (U5 hs0_5 ((((le36.t le40).trans le76).trans le84).trans le111)) x2.Call _ hr114) ?_
      rintro _ F8 w117 hs118 le119 ⟨ar113_0_0, nr113_0_0, rfl, hbr113_0_0, hsr113_0_0⟩
      refine D1 17 ?_
      obtain ⟨r121, hr122, h123⟩ := bind_some h115
      refine Ve (l' := [true, true, true, true, true, true, true, true, true, true, true, true, true, true, true, true, true, true, false, false, false, false, false, false, false, false, false, false, false, false, false, false]) (zd := true) (by kernel_rfl) (by kernel_rfl) (by kernel_rfl) (dst := (some 67)) (ty := 4) (g := (some (8, false))) (by kernel_rfl) (DE (d := 58) (by kernel_rfl) rfl hb102) (f0 := (.func 57)) (aos := #[(.tmp 62), (.tmp 66)]) (ats := #[24, 24]) (fid := 57) (first := #[]) (cap := #[]) (args := [(.slice ar105_0_0 r105.length nr105_0_0), (.slice ar113_0_0 r113.length nr113_0_0)]) rfl Cl rfl hs118 (Cy N w117 F8 hs118.pers r105 ar105_0_0 nr105_0_0 hbr105_0_0 (U5 hsr105_0_0 le119) r113 ar113_0_0 nr113_0_0 hbr113_0_0 hsr113_0_0 _ hr122) ?_
      rintro _ F9 w125 hs126 le127 rfl
      refine Dgl 18 68 4 (.bool (!r121)) (tf 19 13) 8 false 58 hb102 (fun _ hq => GO (t := 4) (x := (.tmp 67)) (a := r121) rfl) <| Dtl 19 69 4 _ (tf 20 12) (fun _ hq => p0 58 (.const (.bool true)) (.tmp 68) (.bool (!r121)) hb102) <| Dvl [20] (tf 21 11) <| Sd h123 (fun hb129 h130 => ?_) (fun hb129 h131 => ?_)
      ·refine Dkl [(21, 71), (22, 72), (23, 73), (24, 74), (25, 75), (26, 76)] 20 false 70 hb129 (tf 27 5) ?_
       refine Dkl [(27, 77), (28, 78), (29, 79), (30, 80)] 20 false 70 hb129 (tf 31 1) <| Dtl 31 81 4 _ (tf 32 0) (fun _ hq => p1 70 (.const (.bool true)) (.tmp 80) (.bool true) hb129) ?_
       obtain rfl := Aa h130
       exact Vf (by kernel_rfl) ⟨F9, hs126.dr0, ((le111.t le119).trans le127), fI⟩
      ·refine Dgl 21 71 27 _ (tf 22 10) 20 false 70 hb129 (fun _ hq => ld 27 3 b21 0 true 6 (.agg (As x0 a0_4 n0_4 a0_5 n0_5)) (hq.1.2 2 _ _ rfl)) ?_
       refine Dgl 22 72 0 (pt b27 2) (tf 23 9) 20 false 70 hb129 (fun _ hq => fa 82 5 2 2 2 b27 0 2) <| Dgl 23 73 80 _ (tf 24 8) 20 false 70 hb129 (fun _ hq => ld 80 72 b27 2 true 2 (.agg #[(vi x2.Span.Lo), (vi x2.Span.Hi)]) (hq.1.2 0 _ _ rfl)) <| Dgl 25 75 27 _ [tt, tt, tt, tt, tt, tt, tt, tt, tt, tt, tt, tt, tt, tt, tt, tt, tt, tt, tt, tt, tt, tt, tt, tt, ff, tt, ff, ff, ff, ff, ff, ff] 20 false 70 hb129 (fun _ hq => ld 27 3 b21 0 true 6 (.agg (As x0 a0_4 n0_4 a0_5 n0_5)) (hq.1.2 2 _ _ rfl)) <| Dgl 26 76 0 (pt b27 2) [tt, tt, tt, tt, tt, tt, tt, tt, tt, tt, tt, tt, tt, tt, tt, tt, tt, tt, tt, tt, tt, tt, tt, tt, ff, tt, tt, ff, ff, ff, ff, ff] 20 false 70 hb129 (fun _ hq => fa 82 5 2 2 2 b27 0 2) <| Dgl 27 77 80 _ [tt, tt, tt, tt, tt, tt, tt, tt, tt, tt, tt, tt, tt, tt, tt, tt, tt, tt, tt, tt, tt, tt, tt, tt, ff, tt, tt, tt, ff, ff, ff, ff] 20 false 70 hb129 (fun _ hq => ld 80 76 b27 2 true 2 (.agg #[(vi x2.Span.Lo), (vi x2.Span.Hi)]) (hq.1.2 0 _ _ rfl)) <| D1 24 ?_
       obtain ⟨r132, hr133, h134⟩ := bind_some h131
       refine Ve (l' := [true, true, true, true, true, true, true, true, true, true, true, true, true, true, true, true, true, true, true, true, true, true, true, true, true, true, true, true, false, false, false, false]) (zd := true) (by kernel_rfl) (by kernel_rfl) (by kernel_rfl) (dst := (some 74)) (ty := 24) (g := (some (20, false))) (by kernel_rfl) (DE (d := 70) (by kernel_rfl) rfl hb129) (f0 := (.func 56)) (aos := #[(.tmp 71), (.tmp 73)]) (ats := #[27, 80]) (fid := 56) (first := #[]) (cap := #[]) (args := [(.agg (As x0 a0_4 n0_4 a0_5 n0_5)), (.agg #[(vi x2.Span.Lo), (vi x2.Span.Hi)])]) rfl LV rfl hs126 (Nb N w125 F9 hs126.pers x0 a0_4 n0_4 hb0_4 (U5 hs0_4 ((((((le36.t le40).trans le76).trans le84).trans le111).trans le119).trans le127)) a0_5 n0_5 hb0_5 (U5 hs0_5 ((((((le36.t le40).trans le76).trans le84).trans le111).trans le119).trans le127)) x2.Span _ hr133) ?_
       rintro _ F10 w136 hs137 le138 ⟨ar132_0_0, nr132_0_0, rfl, hbr132_0_0, hsr132_0_0⟩
       refine D1 28 ?_
       obtain ⟨r140, hr141, h142⟩ := bind_some h134
       refine Ve (l' := [true, true, true, true, true, true, true, true, true, true, true, true, true, true, true, true, true, true, true, true, true, true, true, true, true, true, true, true, true, false, false, false]) (zd := true) (by kernel_rfl) (by kernel_rfl) (by kernel_rfl) (dst := (some 78)) (ty := 24) (g := (some (20, false))) (by kernel_rfl) (DE (d := 70) (by kernel_rfl) rfl hb129) (f0 := (.func 64)) (aos := #[(.tmp 75), (.tmp 77)]) (ats := #[27, 80]) (fid := 64) (first := #[]) (cap := #[]) (args := [(.agg (As x0 a0_4 n0_4 a0_5 n0_5)), (.agg #[(vi x2.Span.Lo), (vi x2.Span.Hi)])]) rfl KA rfl hs137 (LZ N w136 F10 hs137.pers x0 a0_4 n0_4 hb0_4 (U5 hs0_4 (((((((le36.t le40).trans le76).trans le84).trans le111).trans le119).trans le127).trans le138)) a0_5 n0_5 hb0_5 (U5 hs0_5 (((((((le36.t le40).trans le76).trans le84).trans le111).trans le119).trans le127).trans le138)) x2.Span _ hr141) ?_
       rintro _ F11 w144 hs145 le146 ⟨ar140_0_0, nr140_0_0, rfl, hbr140_0_0, hsr140_0_0⟩
       refine D1 29 ?_
       obtain ⟨r148, hr149, h150⟩ := bind_some h142
       refine Ve (l' := [true, true, true, true, true, true, true, true, true, true, true, true, true, true, true, true, true, true, true, true, true, true, true, true, true, true, true, true, true, true, false, false]) (zd := true) (by kernel_rfl) (by kernel_rfl) (by kernel_rfl) (dst := (some 79)) (ty := 4) (g := (some (20, false))) (by kernel_rfl) (DE (d := 70) (by kernel_rfl) rfl hb129) (f0 := (.func 57)) (aos := #[(.tmp 74), (.tmp 78)]) (ats := #[24, 24]) (fid := 57) (first := #[]) (cap := #[]) (args := [(.slice ar132_0_0 r132.length nr132_0_0), (.slice ar140_0_0 r140.length nr140_0_0)]) rfl Cl rfl hs145 (Cy N w144 F11 hs145.pers r132 ar132_0_0 nr132_0_0 hbr132_0_0 (U5 hsr132_0_0 le146) r140 ar140_0_0 nr140_0_0 hbr140_0_0 hsr140_0_0 _ hr149) ?_
       rintro _ F12 w152 hs153 le154 rfl
       refine Dgl 30 80 4 (.bool (!r148)) (tf 31 1) 20 false 70 hb129 (fun _ hq => GO (t := 4) (x := (.tmp 79)) (a := r148) rfl) <| Dtl 31 81 4 _ (tf 32 0) (fun _ hq => p0 70 (.const (.bool true)) (.tmp 80) (.bool (!r148)) hb129) ?_
       obtain rfl := Aa h150
       exact Vf (by kernel_rfl) ⟨F12, hs153.dr0, (((((le111.t le119).trans le127).trans le138).trans le146).trans le154), fI⟩
   ·rintro f w88 ⟨F6, hs89, le90, ⟨_, rfl⟩⟩
    refine Ab <| Cd h98 (fun hb156 h157 => ?_) (fun hb156 h158 => ?_)
    ·refine Sq (Rg [0] ?_)
     refine Vs 1 <| Nt <| Rt <| Af ?_
     obtain rfl := Aa h157
     exact Re [(.bool false)] hs89 rfl
    ·refine Sc ?_
     refine Ab <| Sq <| Sq ?_
     obtain ⟨j164, hj170, h171⟩ := bind_some h158
     refine RD 22 22 [(sb b24 (As x1 a1_4 n1_4 a1_5 n1_5) 27), (sb b21 (As x0 a0_4 n0_4 a0_5 n0_5) 27)] [] hs89 (fun f w => ∃ (F13 : Mem), HS w0 F0 w F13 [(sb b24 (As x1 a1_4 n1_4 a1_5 n1_5) 27), (sb b21 (As x0 a0_4 n0_4 a0_5 n0_5) 27)] /\ U2 F6 F13 /\ FI f [] [(3, (pt b21 0)), (4, (pt b24 0)), (7, (.bool r30)), (103, (.bool j164))]) (fun wd159 hw160 => ?_) ?_
     ·refine Dl 0 (fun _ hq => (hq.1.2 1 _ _ rfl)) ?_
      refine Dl 2 (fun _ hq => (hq.1.2 1 _ _ rfl)) <| D1 1 ?_
      obtain ⟨r172, hr173, h174⟩ := bind_some hj170
      refine DCl KG hw160 (L2 N wd159 F6 hw160.pers x0 a0_4 n0_4 hb0_4 (U5 hs0_4 ((((le36.t le40).trans le76).trans le84).trans le90)) a0_5 n0_5 hb0_5 (U5 hs0_5 ((((le36.t le40).trans le76).trans le84).trans le90)) _ hr173) ?_
      rintro _ F14 w176 hs177 le178 ⟨ar172_0_0, nr172_0_0, rfl, hbr172_0_0, hsr172_0_0⟩
      refine D1 3 ?_
      obtain ⟨r180, hr181, h182⟩ := bind_some h174
      refine DCl JT hs177 (KK N w176 F14 hs177.pers x0 a0_4 n0_4 hb0_4 (U5 hs0_4 (((((le36.t le40).trans le76).trans le84).trans le90).trans le178)) a0_5 n0_5 hb0_5 (U5 hs0_5 (((((le36.t le40).trans le76).trans le84).trans le90).trans le178)) _ hr181) ?_
      rintro _ F15 w184 hs185 le186 ⟨ar180_0_0, nr180_0_0, rfl, hbr180_0_0, hsr180_0_0⟩
      refine D1 4 ?_
      obtain ⟨r188, hr189, h190⟩ := bind_some h182
      refine DCl Jb hs185 (J6 N w184 F15 hs185.pers r172 ar172_0_0 nr172_0_0 hbr172_0_0 (U5 hsr172_0_0 le186) r180 ar180_0_0 nr180_0_0 hbr180_0_0 hsr180_0_0 _ hr189) ?_
      rintro _ F16 w192 hs193 le194 rfl
      refine Dvl [5, 6] (tf 7 15) <| Sd h190 (fun hb196 h197 => ?_) (fun hb196 h198 => ?_)
      ·refine Dkl [(7, 89), (8, 90), (9, 91), (10, 92), (11, 93), (12, 94)] 6 false 88 hb196 (tf 13 9) ?_
       refine Dtl 13 95 4 _ (tf 14 8) (fun _ hq => p1 88 (.const (.bool true)) (.tmp 94) (.bool true) hb196) <| Dvl [14] (tf 15 7) <| Dkl [(15, 97), (16, 98), (17, 99), (18, 100), (19, 101), (20, 102)] 14 false 96 rfl (tf 21 1) <| Dtl 21 103 4 _ (tf 22 0) (fun _ hq => p1 96 (.const (.bool true)) (.tmp 102) (.bool true) rfl) ?_
       obtain rfl := Aa h197
       exact Vf (by kernel_rfl) ⟨F16, hs193, ((le178.t le186).trans le194), fI⟩
      ·refine Dgl 7 89 27 _ (tf 8 14) 6 false 88 hb196 (fun _ hq => ld 27 3 b21 0 true 6 (.agg (As x0 a0_4 n0_4 a0_5 n0_5)) (hq.1.2 1 _ _ rfl)) ?_
       refine Dgl 9 91 27 _ [tt, tt, tt, tt, tt, tt, tt, tt, ff, tt, ff, ff, ff, ff, ff, ff, ff, ff, ff, ff, ff, ff] 6 false 88 hb196 (fun _ hq => ld 27 3 b21 0 true 6 (.agg (As x0 a0_4 n0_4 a0_5 n0_5)) (hq.1.2 1 _ _ rfl)) <| D1 8 ?_
       obtain ⟨r199, hr200, h201⟩ := bind_some h198
       refine Ve (l' := [true, true, true, true, true, true, true, true, true, true, false, false, false, false, false, false, false, false, false, false, false, false]) (zd := true) (by kernel_rfl) (by kernel_rfl) (by kernel_rfl) (dst := (some 90)) (ty := 24) (g := (some (6, false))) (by kernel_rfl) (DE (d := 88) (by kernel_rfl) rfl hb196) (f0 := (.func 67)) (aos := #[(.tmp 89)]) (ats := #[27]) (fid := 67) (first := #[]) (cap := #[]) (args := [(.agg (As x0 a0_4 n0_4 a0_5 n0_5))]) rfl Nr rfl hs193 (OP N w192 F16 hs193.pers x0 a0_4 n0_4 hb0_4 (U5 hs0_4 (((((((le36.t le40).trans le76).trans le84).trans le90).trans le178).trans le186).trans le194)) a0_5 n0_5 hb0_5 (U5 hs0_5 (((((((le36.t le40).trans le76).trans le84).trans le90).trans le178).trans le186).trans le194)) _ hr200) ?_
       rintro _ F17 w203 hs204 le205 ⟨ar199_0_0, nr199_0_0, rfl, hbr199_0_0, hsr199_0_0⟩
       refine D1 10 ?_
       obtain ⟨r207, hr208, h209⟩ := bind_some h201
       refine Ve (l' := [true, true, true, true, true, true, true, true, true, true, true, false, false, false, false, false, false, false, false, false, false, false]) (zd := true) (by kernel_rfl) (by kernel_rfl) (by kernel_rfl) (dst := (some 92)) (ty := 24) (g := (some (6, false))) (by kernel_rfl) (DE (d := 88) (by kernel_rfl) rfl hb196) (f0 := (.func 68)) (aos := #[(.tmp 91)]) (ats := #[27]) (fid := 68) (first := #[]) (cap := #[]) (args := [(.agg (As x0 a0_4 n0_4 a0_5 n0_5))]) rfl MP rfl hs204 (Nw N w203 F17 hs204.pers x0 a0_4 n0_4 hb0_4 (U5 hs0_4 ((((((((le36.t le40).trans le76).trans le84).trans le90).trans le178).trans le186).trans le194).trans le205)) a0_5 n0_5 hb0_5 (U5 hs0_5 ((((((((le36.t le40).trans le76).trans le84).trans le90).trans le178).trans le186).trans le194).trans le205)) _ hr208) ?_
       rintro _ F18 w211 hs212 le213 ⟨ar207_0_0, nr207_0_0, rfl, hbr207_0_0, hsr207_0_0⟩
       refine D1 11 ?_
       obtain ⟨r215, hr216, h217⟩ := bind_some h209
       refine Ve (l' := [true, true, true, true, true, true, true, true, true, true, true, true, false, false, false, false, false, false, false, false, false, false]) (zd := true) (by kernel_rfl) (by kernel_rfl) (by kernel_rfl) (dst := (some 93)) (ty := 4) (g := (some (6, false))) (by kernel_rfl) (DE (d := 88) (by kernel_rfl) rfl hb196) (f0 := (.func 57)) (aos := #[(.tmp 90), (.tmp 92)]) (ats := #[24, 24]) (fid := 57) (first := #[]) (cap := #[]) (args := [(.slice ar199_0_0 r199.length nr199_0_0), (.slice ar207_0_0 r207.length nr207_0_0)]) rfl Cl rfl hs212 (Cy N w211 F18 hs212.pers r199 ar199_0_0 nr199_0_0 hbr199_0_0 (U5 hsr199_0_0 le213) r207 ar207_0_0 nr207_0_0 hbr207_0_0 hsr207_0_0 _ hr216) ?_
       rintro _ F19 w219 hs220 le221 rfl
       refine Dgl 12 94 4 (.bool (!r215)) (tf 13 9) 6 false 88 hb196 (fun _ hq => GO (t := 4) (x := (.tmp 93)) (a := r215) rfl) <| Dtl 13 95 4 _ (tf 14 8) (fun _ hq => p0 88 (.const (.bool true)) (.tmp 94) (.bool (!r215)) hb196) <| Dvl [14] (tf 15 7) <| Sd h217 (fun hb223 h224 => ?_) (fun hb223 h225 => ?_)
       ·refine Dkl [(15, 97), (16, 98), (17, 99), (18, 100), (19, 101), (20, 102)] 14 false 96 hb223 (tf 21 1) ?_
        refine Dtl 21 103 4 _ (tf 22 0) (fun _ hq => p1 96 (.const (.bool true)) (.tmp 102) (.bool true) hb223) ?_
        obtain rfl := Aa h224
        exact Vf (by kernel_rfl) ⟨F19, hs220, (((((le178.t le186).trans le194).trans le205).trans le213).trans le221), fI⟩
       ·refine Dgl 15 97 27 _ (tf 16 6) 14 false 96 hb223 (fun _ hq => ld 27 3 b21 0 true 6 (.agg (As x0 a0_4 n0_4 a0_5 n0_5)) (hq.1.2 1 _ _ rfl)) ?_
        refine Dgl 17 99 27 _ [tt, tt, tt, tt, tt, tt, tt, tt, tt, tt, tt, tt, tt, tt, tt, tt, ff, tt, ff, ff, ff, ff] 14 false 96 hb223 (fun _ hq => ld 27 3 b21 0 true 6 (.agg (As x0 a0_4 n0_4 a0_5 n0_5)) (hq.1.2 1 _ _ rfl)) <| D1 16 ?_
        obtain ⟨r226, hr227, h228⟩ := bind_some h225
        refine Ve (l' := [true, true, true, true, true, true, true, true, true, true, true, true, true, true, true, true, true, true, false, false, false, false]) (zd := true) (by kernel_rfl) (by kernel_rfl) (by kernel_rfl) (dst := (some 98)) (ty := 24) (g := (some (14, false))) (by kernel_rfl) (DE (d := 96) (by kernel_rfl) rfl hb223) (f0 := (.func 69)) (aos := #[(.tmp 97)]) (ats := #[27]) (fid := 69) (first := #[]) (cap := #[]) (args := [(.agg (As x0 a0_4 n0_4 a0_5 n0_5))]) rfl LT rfl hs220 (M9 N w219 F19 hs220.pers x0 a0_4 n0_4 hb0_4 (U5 hs0_4 ((((((((((le36.t le40).trans le76).trans le84).trans le90).trans le178).trans le186).trans le194).trans le205).trans le213).trans le221)) a0_5 n0_5 hb0_5 (U5 hs0_5 ((((((((((le36.t le40).trans le76).trans le84).trans le90).trans le178).trans le186).trans le194).trans le205).trans le213).trans le221)) _ hr227) ?_
        rintro _ F20 w230 hs231 le232 ⟨ar226_0_0, nr226_0_0, rfl, hbr226_0_0, hsr226_0_0⟩
        refine D1 18 ?_
        obtain ⟨r234, hr235, h236⟩ := bind_some h228
        refine Ve (l' := [true, true, true, true, true, true, true, true, true, true, true, true, true, true, true, true, true, true, true, false, false, false]) (zd := true) (by kernel_rfl) (by kernel_rfl) (by kernel_rfl) (dst := (some 100)) (ty := 24) (g := (some (14, false))) (by kernel_rfl) (DE (d := 96) (by kernel_rfl) rfl hb223) (f0 := (.func 70)) (aos := #[(.tmp 99)]) (ats := #[27]) (fid := 70) (first := #[]) (cap := #[]) (args := [(.agg (As x0 a0_4 n0_4 a0_5 n0_5))]) rfl Kz rfl hs231 (LY N w230 F20 hs231.pers x0 a0_4 n0_4 hb0_4 (U5 hs0_4 (((((((((((le36.t le40).trans le76).trans le84).trans le90).trans le178).trans le186).trans le194).trans le205).trans le213).trans le221).trans le232)) a0_5 n0_5 hb0_5 (U5 hs0_5 (((((((((((le36.t le40).trans le76).trans le84).trans le90).trans le178).trans le186).trans le194).trans le205).trans le213).trans le221).trans le232)) _ hr235) ?_
        rintro _ F21 w238 hs239 le240 ⟨ar234_0_0, nr234_0_0, rfl, hbr234_0_0, hsr234_0_0⟩
        refine D1 19 ?_
        obtain ⟨r242, hr243, h244⟩ := bind_some h236
        refine Ve (l' := [true, true, true, true, true, true, true, true, true, true, true, true, true, true, true, true, true, true, true, true, false, false]) (zd := true) (by kernel_rfl) (by kernel_rfl) (by kernel_rfl) (dst := (some 101)) (ty := 4) (g := (some (14, false))) (by kernel_rfl) (DE (d := 96) (by kernel_rfl) rfl hb223) (f0 := (.func 57)) (aos := #[(.tmp 98), (.tmp 100)]) (ats := #[24, 24]) (fid := 57) (first := #[]) (cap := #[]) (args := [(.slice ar226_0_0 r226.length nr226_0_0), (.slice ar234_0_0 r234.length nr234_0_0)]) rfl Cl rfl hs239 (Cy N w238 F21 hs239.pers r226 ar226_0_0 nr226_0_0 hbr226_0_0 (U5 hsr226_0_0 le240) r234 ar234_0_0 nr234_0_0 hbr234_0_0 hsr234_0_0 _ hr243) ?_
        rintro _ F22 w246 hs247 le248 rfl
        refine Dgl 20 102 4 (.bool (!r242)) (tf 21 1) 14 false 96 hb223 (fun _ hq => GO (t := 4) (x := (.tmp 101)) (a := r242) rfl) <| Dtl 21 103 4 _ (tf 22 0) (fun _ hq => p0 96 (.const (.bool true)) (.tmp 102) (.bool (!r242)) hb223) ?_
        obtain rfl := Aa h244
        exact Vf (by kernel_rfl) ⟨F22, hs247, ((((((((le178.t le186).trans le194).trans le205).trans le213).trans le221).trans le232).trans le240).trans le248), fI⟩
     ·rintro f w161 ⟨F13, hs162, le163, ⟨_, rfl⟩⟩
      refine Ab <| Cd h171 (fun hb250 h251 => ?_) (fun hb250 h252 => ?_)
      ·refine Sq (Rg [0] ?_)
       refine Vs 1 <| Nt <| Rt <| Af ?_
       obtain rfl := Aa h251
       exact Re [(.bool false)] hs162 rfl
      ·refine Sc ?_
       refine Ab <| Sq ?_
       obtain ⟨j258, hj261, h262⟩ := bind_some h252
       refine RD 16 16 [(sb b24 (As x1 a1_4 n1_4 a1_5 n1_5) 27), (sb b21 (As x0 a0_4 n0_4 a0_5 n0_5) 27)] [] hs162 (fun f w => ∃ (F23 : Mem), HS w0 F0 w F23 [] /\ U2 F13 F23 /\ FI f [] [(6, (.bool j258))]) (fun wd253 hw254 => ?_) ?_
       ·refine Dv [0, 1] ?_
        refine Sd hj261 (fun hb263 h264 => ?_) (fun hb263 h265 => ?_)
        ·refine Dg 2 106 27 _ 1 true 105 hb263 (fun _ hq => ld 27 3 b21 0 true 6 (.agg (As x0 a0_4 n0_4 a0_5 n0_5)) (hq.1.2 1 _ _ rfl)) ?_
         refine Dg 3 107 27 _ 1 true 105 hb263 (fun _ hq => ld 27 4 b24 0 true 6 (.agg (As x1 a1_4 n1_4 a1_5 n1_5)) (hq.1.2 0 _ _ rfl)) <| Dg 5 109 27 _ 1 true 105 hb263 (fun _ hq => ld 27 3 b21 0 true 6 (.agg (As x0 a0_4 n0_4 a0_5 n0_5)) (hq.1.2 1 _ _ rfl)) <| Dg 6 110 27 _ 1 true 105 hb263 (fun _ hq => ld 27 4 b24 0 true 6 (.agg (As x1 a1_4 n1_4 a1_5 n1_5)) (hq.1.2 0 _ _ rfl)) <| D1 4 ?_
         obtain ⟨r266, hr267, h268⟩ := bind_some h264
         refine Ve (l' := [true, true, true, true, true, true, true, false, false, false, false, false, false, false, false, false]) (zd := true) (by kernel_rfl) (by kernel_rfl) (by kernel_rfl) (dst := (some 108)) (ty := 4) (g := (some (1, true))) (by kernel_rfl) (DE (d := 105) (by kernel_rfl) rfl hb263) (f0 := (.func 42)) (aos := #[(.tmp 106), (.tmp 107)]) (ats := #[27, 27]) (fid := 42) (first := #[]) (cap := #[]) (args := [(.agg (As x0 a0_4 n0_4 a0_5 n0_5)), (.agg (As x1 a1_4 n1_4 a1_5 n1_5))]) rfl JZ rfl hw254 (Lk N wd253 F13 hw254.pers x0 a0_4 n0_4 hb0_4 (U5 hs0_4 (((((le36.t le40).trans le76).trans le84).trans le90).trans le163)) a0_5 n0_5 hb0_5 (U5 hs0_5 (((((le36.t le40).trans le76).trans le84).trans le90).trans le163)) x1 a1_4 n1_4 hb1_4 (U5 hs1_4 (((((le36.t le40).trans le76).trans le84).trans le90).trans le163)) a1_5 n1_5 hb1_5 (U5 hs1_5 (((((le36.t le40).trans le76).trans le84).trans le90).trans le163)) _ hr267) ?_
         rintro _ F24 w270 hs271 le272 rfl
         refine D1 7 ?_
         obtain ⟨r274, hr275, h276⟩ := bind_some h268
         refine Ve (l' := [true, true, true, true, true, true, true, true, false, false, false, false, false, false, false, false]) (zd := true) (by kernel_rfl) (by kernel_rfl) (by kernel_rfl) (dst := (some 111)) (ty := 4) (g := (some (1, true))) (by kernel_rfl) (DE (d := 105) (by kernel_rfl) rfl hb263) (f0 := (.func 35)) (aos := #[(.tmp 109), (.tmp 110)]) (ats := #[27, 27]) (fid := 35) (first := #[]) (cap := #[]) (args := [(.agg (As x0 a0_4 n0_4 a0_5 n0_5)), (.agg (As x1 a1_4 n1_4 a1_5 n1_5))]) rfl IV rfl hs271 (J7 N w270 F24 hs271.pers x0 a0_4 n0_4 hb0_4 (U5 hs0_4 ((((((le36.t le40).trans le76).trans le84).trans le90).trans le163).trans le272)) a0_5 n0_5 hb0_5 (U5 hs0_5 ((((((le36.t le40).trans le76).trans le84).trans le90).trans le163).trans le272)) x1 a1_4 n1_4 hb1_4 (U5 hs1_4 ((((((le36.t le40).trans le76).trans le84).trans le90).trans le163).trans le272)) a1_5 n1_5 hb1_5 (U5 hs1_5 ((((((le36.t le40).trans le76).trans le84).trans le90).trans le163).trans le272)) _ hr275) ?_
         rintro _ F25 w278 hs279 le280 rfl
         refine Dg 8 112 4 (.bool (r266 == r274)) 1 true 105 hb263 (fun _ hq => Qw (t := 4) (t' := 4) (x := (.tmp 108)) (y := (.tmp 111)) (a := r266) (b := r274) rfl rfl (by kernel_rfl)) <| Dt 9 113 4 _ (fun _ hq => p1 105 (.tmp 112) (.const (.bool false)) (.bool (r266 == r274)) hb263) <| Dv [10] <| Sd h276 (fun hb282 h283 => ?_) (fun hb282 h284 => ?_)
         ·refine Dg 11 115 27 _ 10 true 114 hb282 (fun _ hq => ld 27 3 b21 0 true 6 (.agg (As x0 a0_4 n0_4 a0_5 n0_5)) (hq.1.2 1 _ _ rfl)) ?_
          refine Dg 12 116 27 _ 10 true 114 hb282 (fun _ hq => ld 27 3 b21 0 true 6 (.agg (As x0 a0_4 n0_4 a0_5 n0_5)) (hq.1.2 1 _ _ rfl)) <| D1 13 ?_
          obtain ⟨r285, hr286, h287⟩ := bind_some h283
          refine Ve (l' := [true, true, true, true, true, true, true, true, true, true, true, true, true, true, false, false]) (zd := true) (by kernel_rfl) (by kernel_rfl) (by kernel_rfl) (dst := (some 117)) (ty := 4) (g := (some (10, true))) (by kernel_rfl) (DE (d := 114) (by kernel_rfl) rfl hb282) (f0 := (.func 42)) (aos := #[(.tmp 115), (.tmp 116)]) (ats := #[27, 27]) (fid := 42) (first := #[]) (cap := #[]) (args := [(.agg (As x0 a0_4 n0_4 a0_5 n0_5)), (.agg (As x0 a0_4 n0_4 a0_5 n0_5))]) rfl JZ rfl hs279 (Lk N w278 F25 hs279.pers x0 a0_4 n0_4 hb0_4 (U5 hs0_4 (((((((le36.t le40).trans le76).trans le84).trans le90).trans le163).trans le272).trans le280)) a0_5 n0_5 hb0_5 (U5 hs0_5 (((((((le36.t le40).trans le76).trans le84).trans le90).trans le163).trans le272).trans le280)) x0 a0_4 n0_4 hb0_4 (U5 hs0_4 (((((((le36.t le40).trans le76).trans le84).trans le90).trans le163).trans le272).trans le280)) a0_5 n0_5 hb0_5 (U5 hs0_5 (((((((le36.t le40).trans le76).trans le84).trans le90).trans le163).trans le272).trans le280)) _ hr286) ?_
          rintro _ F26 w289 hs290 le291 rfl
          refine Dt 14 118 4 _ (fun _ hq => p1 114 (.tmp 117) (.const (.bool false)) (.bool r285) hb282) <| Dv [15] ?_
          obtain rfl := Aa h287
          exact Vf (by kernel_rfl) ⟨F26, hs290.dr0.dr0, ((le272.t le280).trans le291), fI⟩
         ·refine Dk [(11, 115), (12, 116), (13, 117)] 10 true 114 hb282 ?_
          refine Dt 14 118 4 _ (fun _ hq => p0 114 (.tmp 117) (.const (.bool false)) (.bool false) hb282) <| Dv [15] ?_
          obtain rfl := Aa h284
          exact Vf (by kernel_rfl) ⟨F25, hs279.dr0.dr0, (le272.t le280), fI⟩
        ·refine Dk [(2, 106), (3, 107), (4, 108), (5, 109), (6, 110), (7, 111), (8, 112)] 1 true 105 hb263 ?_
         refine Dt 9 113 4 _ (fun _ hq => p0 105 (.tmp 112) (.const (.bool false)) (.bool false) hb263) <| Dv [10] <| Dk [(11, 115), (12, 116), (13, 117)] 10 true 114 rfl <| Dt 14 118 4 _ (fun _ hq => p0 114 (.tmp 117) (.const (.bool false)) (.bool false) rfl) <| Dv [15] ?_
         obtain rfl := Aa h265
         exact Vf (by kernel_rfl) ⟨F13, hw254.dr0.dr0, (U3 _), fI⟩
       ·rintro f w255 ⟨F23, hs256, le257, ⟨_, rfl⟩⟩
        refine Ab <| Rt ?_
        obtain rfl := Aa h262
        exact Re [(.bool j258)] hs256 rfl
section
variable {N : Nat}
theorem SW {α : Type} [DecidableEq α] (a b : List α) (h : a.length = b.length) : KU a.length (fun i => decide (a[i]? = b[i]?)) = decide (a = b) := by
 rw [Bool.eq_iff_iff, decide_eq_true_eq, SJ]
 constructor
 ·intro hh
  apply List.ext_getElem? 
  intro i
  by_cases hi : i < a.length
  ·simpa using hh i hi
  ·rw [List.getElem?_eq_none (by omega), List.getElem?_eq_none (by omega)]
 ·rintro rfl i _
  simp
theorem H0 {α : Type} [DecidableEq α] (a b : List α) {body : Int -> Option (A8 Bool Int)} (hl : a.length = b.length) (hn : a.length < N)
  (hb : ∀ i (h : i < a.length) (h2 : i < b.length), body (i : Int) = some (bif decide (a[i] = b[i]) then .next ((i + 1 : Nat) : Int) else .ret false)) (he : body (a.length : Int) = some (.done (a.length : Int))) :
  ((AL body N 0).bind fun o => o.k (fun r => some r) (fun _ => some true)) = some (decide (a = b)) := by
 rw [Pm (n := a.length) (fun i => decide (a[i]? = b[i]?)) false (fun i hi => by
  rw [hb i hi (by omega), List.getElem?_eq_getElem hi, List.getElem?_eq_getElem (by omega)]
  simp only [Option.some.injEq]) he hn, SW a b hl]
 cases decide (a = b) <;> rfl
theorem JJ {α : Type} (a b : List α) : ((a.length : Int) != (b.length : Int)) = !decide (a.length = b.length) := by
 by_cases h : a.length = b.length
 ·rw [h]; simp
 ·rw [decide_eq_false h]
  simp only [Bool.not_false, bne_iff_ne, ne_eq]
  omega
theorem HF {α : Type} [DecidableEq α] {a b : List α} (h : ¬ a.length = b.length) : decide (a = b) = false := decide_eq_false fun e => h (by rw [e])
theorem Ha {α : Type} [DecidableEq α] [BEq α] [LawfulBEq α] (x y : α) : (x != y) = !decide (x = y) := by
 by_cases h : x = y
 ·subst h; simp
 ·rw [decide_eq_false h]; simpa using h
theorem E9 {α : Type} [DecidableEq α] [BEq α] [LawfulBEq α] (x y : α) : (x == y) = decide (x = y) := by
 by_cases h : x = y
 ·subst h; simp
 ·rw [decide_eq_false h]; simpa using h
theorem Uo (i : Nat) (h : i + 1 < 9223372036854775808) : W64 ((i : Int) + 1) = ((i + 1 : Nat) : Int) := by
 rw [Gm (by omega) (by omega)]; omega
theorem Jy (a b : List Int) (ha : a.length < 9223372036854775808) (hN : a.length < N) : BP N a b = some (decide (a = b)) := by
 unfold BP
 rw [JJ]
 by_cases h : a.length = b.length
 ·rw [decide_eq_true h, Bool.not_true, cond_false]
  exact H0 a b h (by omega) (fun i h1 h2 => by
   unfold CV
   rw [B5 h1, cond_true, Bi h1, Bi h2, Option.bind_some, Option.bind_some, Option.bind_some, Ha, Uo i (by omega)]
   cases decide (a[i] = b[i]) <;> rfl) (by
   unfold CV
   rw [BN, cond_false])
 ·rw [decide_eq_false h, HF h]; rfl
theorem Ta (a b : List Vo) (ha : a.length < 4000000000) (hN : 4294967300 < N) : DH N a b = some (decide (a = b)) := by
 unfold DH
 rw [JJ]
 by_cases h : a.length = b.length
 ·rw [decide_eq_true h, Bool.not_true, cond_false]
  exact H0 a b h (by omega) (fun i h1 h2 => by
   unfold CG
   rw [B5 h1, cond_true, Bi h1, Bi h2, Option.bind_some, Option.bind_some, Option.bind_some, Ha, Iq i (by omega)]
   cases decide (a[i] = b[i]) <;> rfl) (by
   unfold CG
   rw [BN, cond_false])
 ·rw [decide_eq_false h, HF h]; rfl
theorem Sb (a b : List Int) (ha : a.length < 9223372036854775808) (hN : a.length < N) : Cf N a b = some (decide (a = b)) := by
 unfold Cf
 rw [JJ]
 by_cases h : a.length = b.length
 ·rw [decide_eq_true h, Bool.not_true, cond_false]
  exact H0 a b h (by omega) (fun i h1 h2 => by
   unfold BS
   rw [B5 h1, cond_true, Bi h1, Bi h2, Option.bind_some, Option.bind_some, Option.bind_some, Ha, Uo i (by omega)]
   cases decide (a[i] = b[i]) <;> rfl) (by
   unfold BS
   rw [BN, cond_false])
 ·rw [decide_eq_false h, HF h]; rfl
theorem QK (x y : Line) : ((x.Num == y.Num) && ((x.Khz == y.Khz) && ((x.Mode == y.Mode) && ((x.Minute == y.Minute) && ((x.Call == y.Call) && (((x.Sent.Report == y.Sent.Report) && ((x.Sent.Serial == y.Sent.Serial) && ((x.Sent.Zone == y.Sent.Zone) && true))) && (((x.Got.Report == y.Got.Report) && ((x.Got.Serial == y.Got.Serial) && ((x.Got.Zone == y.Got.Zone) && true))) && true))))))) = decide (x = y) := by
 obtain ⟨a, b, c, d, e, ⟨s1, s2, s3⟩, ⟨g1, g2, g3⟩⟩ := x
 obtain ⟨a', b', c', d', e', ⟨s1', s2', s3'⟩, ⟨g1', g2', g3'⟩⟩ := y
 rw [Bool.eq_iff_iff]
 simp only [Bool.and_eq_true, beq_iff_eq, and_true, decide_eq_true_eq, Line.mk.injEq, Ac.mk.injEq]
theorem Sa (a b : List Line) (ha : a.length < 4000000000) (hN : 4294967300 < N) : Be N a b = some (decide (a = b)) := by
 unfold Be
 rw [JJ]
 by_cases h : a.length = b.length
 ·rw [decide_eq_true h, Bool.not_true, cond_false]
  exact H0 a b h (by omega) (fun i h1 h2 => by
   unfold A5
   rw [B5 h1, cond_true, Bi h1, Bi h2]
   simp only [Option.bind_some]
   rw [QK, Iq i (by omega)]
   cases decide (a[i] = b[i]) <;> rfl) (by
   unfold A5
   rw [BN, cond_false])
 ·rw [decide_eq_false h, HF h]; rfl
theorem Se (x y : Log) : (x.Call = y.Call /\ x.Category = y.Category /\ x.Power = y.Power /\ x.Claimed = y.Claimed /\ x.Jumps = y.Jumps /\ x.Lines = y.Lines) ↔ x = y := by
 cases x; cases y; simp only [Log.mk.injEq]
theorem R8 (x y : Log) (hj : x.Jumps.length < 9223372036854775808) (hjN : x.Jumps.length < N) (hl : x.Lines.length < 4000000000) (hN : 4294967300 < N) : Gz N x y = some (decide (x = y)) := by
 unfold Gz
 rw [Sb _ _ hj hjN, Sa _ _ hl hN, E9, E9, E9, E9]
 simp only [Option.bind_some]
 rw [show decide (x = y) = (decide (x.Call = y.Call) && (decide (x.Category = y.Category) && (decide (x.Power = y.Power) && (decide (x.Claimed = y.Claimed) && (decide (x.Jumps = y.Jumps) && decide (x.Lines = y.Lines)))))) by
  rw [<- Bool.decide_and, <- Bool.decide_and, <- Bool.decide_and, <- Bool.decide_and, <- Bool.decide_and, decide_eq_decide]; exact (Se x y).symm]
 cases decide (x.Call = y.Call) <;> cases decide (x.Category = y.Category) <;> cases decide (x.Power = y.Power) <;> cases decide (x.Claimed = y.Claimed) <;> cases decide (x.Jumps = y.Jumps) <;> rfl
theorem TZ (x y : Log) (hj : x.Jumps.length < 9223372036854775808) (hjN : x.Jumps.length < N) (hl : x.Lines.length < 4000000000) (hN : 4294967300 < N) : Fg N x y = some (decide (x = y)) := by
 unfold Fg
 rw [Jy _ _ hj hjN, Ha, Ha, Ha, Ha, JJ]
 simp only [Option.bind_some]
 have key : x.Lines.length = y.Lines.length -> ((AL (DD N x y false) N 0).bind fun o => o.k (fun r => some r) (fun s74 => some true)) = some (decide (x.Lines = y.Lines)) := fun h =>
  H0 x.Lines y.Lines h (by omega) (fun i h1 h2 => by
   unfold DD
   rw [B5 h1, cond_true, Bi h1, Bi h2]
   simp only [Option.bind_some]
   rw [QK, Iq i (by omega)]
   cases decide (x.Lines[i] = y.Lines[i]) <;> rfl) (by
   unfold DD
   rw [BN, cond_false])
 rw [show decide (x = y) = (decide (x.Call = y.Call) && (decide (x.Category = y.Category) && (decide (x.Power = y.Power) && (decide (x.Claimed = y.Claimed) && (decide (x.Jumps = y.Jumps) && decide (x.Lines = y.Lines)))))) by
  rw [<- Bool.decide_and, <- Bool.decide_and, <- Bool.decide_and, <- Bool.decide_and, <- Bool.decide_and, decide_eq_decide]; exact (Se x y).symm]
 cases decide (x.Call = y.Call) <;> cases decide (x.Category = y.Category) <;> cases decide (x.Power = y.Power) <;> cases decide (x.Claimed = y.Claimed) <;> cases decide (x.Jumps = y.Jumps) <;> first | rfl | skip
 by_cases h : x.Lines.length = y.Lines.length
 ·rw [decide_eq_true h]
  exact key h
 ·rw [decide_eq_false h, HF h]; rfl
def I4 (p : Line -> Bool) (l : List Line) : List Int := ((List.range l.length).filter fun (i : Nat) => match l[i]? with | some x => p x | none => false).map fun (i : Nat) => (i : Int)
def FD (p : Line -> Bool) (l : List Line) (k : Nat) : List Int := ((List.range k).filter fun (i : Nat) => match l[i]? with | some x => p x | none => false).map fun (i : Nat) => (i : Int)
theorem KY (p : Line -> Bool) (l : List Line) (k : Nat) : (FD p l k).length <= k := by
 unfold FD
 rw [List.length_map]
 have := List.length_filter_le (fun i : Nat => match l[i]? with | some x => p x | none => false) (List.range k)
 simpa using this
theorem N5 (p : Line -> Bool) (l : List Line) (k : Nat) (h : k < l.length) : FD p l (k + 1) = if p l[k] = true then FD p l k ++ [(k : Int)] else FD p l k := by
 unfold FD
 rw [List.range_succ, List.filter_append, List.map_append]
 simp only [List.filter_cons, List.filter_nil, List.getElem?_eq_getElem h]
 split <;> simp
theorem I3 (p : Line -> Bool) (l : List Line) (hl : l.length < 4000000000) (hN : 4294967300 < N) {ρ : Type} {body : (List Int × Int) -> Option (A8 ρ (List Int × Int))}
  (hb : ∀ i (h : i < l.length) s, body (s, (i : Int)) = ((bif p l[i] then ((Cr s [(i : Int)]).bind fun r101 => some r101) else some s).bind fun j84 => some (.next (j84, (W64 ((i : Int) + 1)))))) (he : ∀ s, body (s, (l.length : Int)) = some (.done (s, (l.length : Int)))) :
  AL body N (([] : List Int), 0) = some (.done (I4 p l, (l.length : Int))) := by
 have := FT (N := N) (body := body) (fun i => (FD p l i, (i : Int))) (o := .done (I4 p l, (l.length : Int))) l.length (fun i hi => by
  rw [hb i hi, Iq i (by omega), N5 p l i hi]
  cases p l[i] with
  | false => rfl
  | true =>
   have := KY p l i
   rw [cond_true, if_pos rfl]
   unfold Cr
   rw [if_pos (by simp; omega)]
   rfl) (he _) (fun _ h => by cases h) (by omega)
 exact this
theorem QH (p : Line -> Bool) (l : Log) (hl : l.Lines.length < 4000000000) (hN : 4294967300 < N) {f : Line -> Option Bool} (hf : ∀ x, f x = some (p x)) : Fi N l f = some (I4 p l.Lines) := by
 unfold Fi
 rw [I3 p l.Lines hl hN (fun i h s => by
  unfold Ew
  simp only
  rw [B5 h, cond_true, Bi h, Option.bind_some, hf, Option.bind_some]) (fun s => by
  unfold Ew
  simp only
  rw [BN, cond_false])]
 rfl
def ofS (l : Log) (c : Vo) : List Int := I4 (fun x => decide (x.Call = c)) l.Lines
def TF (l : Log) (s : Span) : List Int := I4 (fun x => decide (s.Lo <= x.Minute) && decide (x.Minute <= s.Hi)) l.Lines
theorem UP (l : Log) (c : Vo) (hl : l.Lines.length < 4000000000) (hN : 4294967300 < N) : L9 N l c = some (ofS l c) := by
 unfold L9
 rw [QH (fun x => decide (x.Call = c)) l hl hN (fun x => by unfold Ik; rw [E9])]; rfl
theorem Ux (l : Log) (s : Span) (hl : l.Lines.length < 4000000000) (hN : 4294967300 < N) : E3 N l s = some (TF l s) := by
 unfold E3
 rw [QH (fun x => decide (s.Lo <= x.Minute) && decide (x.Minute <= s.Hi)) l hl hN (fun x => by unfold D7; rw [lw]; rfl)]; rfl
theorem UL (l : Log) (c : Vo) (hl : l.Lines.length < 4000000000) (hN : 4294967300 < N) : Jx N l c = some (ofS l c) := by
 unfold Jx
 rw [I3 (fun x => decide (x.Call = c)) l.Lines hl hN (fun i h s => by
  unfold FH
  simp only
  rw [B5 h, cond_true, Bi h, Option.bind_some, E9]) (fun s => by
  unfold FH
  simp only
  rw [BN, cond_false])]
 rfl
theorem Us (l : Log) (s : Span) (hl : l.Lines.length < 4000000000) (hN : 4294967300 < N) : Ev N l s = some (TF l s) := by
 unfold Ev
 rw [I3 (fun x => decide (s.Lo <= x.Minute) && decide (x.Minute <= s.Hi)) l.Lines hl hN (fun i h s' => by
  unfold De
  simp only
  rw [B5 h, cond_true, Bi h, Option.bind_some, rw2, Option.bind_some, Option.bind_some]) (fun s => by
  unfold De
  simp only
  rw [BN, cond_false])]
 rfl
def Tz (l : Log) (n : Int) : Int × Int := match (List.range l.Lines.length).find? fun i => match l.Lines[i]? with | some x => decide (x.Num = n) | none => false with
 | some i => ((i : Int), 0)
 | none => (0, 3)
theorem NW {l : List Line} {n : Int} {k : Nat} (h : ((List.range l.length).find? fun i => match l[i]? with | some x => decide (x.Num = n) | none => false) = some k) : ∃ hk : k < l.length, l[k].Num = n /\ ∀ i (hi : i < l.length), i < k -> l[i].Num ≠ n := by
 rw [List.find?_range_eq_some] at h
 obtain ⟨h1, h2, h3⟩ := h
 have hk : k < l.length := by simpa using h2
 refine ⟨hk, ?_, fun i hi hik => ?_⟩
 ·rw [List.getElem?_eq_getElem hk] at h1
  simpa using h1
 ·have := h3 i hik
  rw [List.getElem?_eq_getElem hi] at this
  simpa using this
theorem NX {l : List Line} {n : Int} (h : ((List.range l.length).find? fun i => match l[i]? with | some x => decide (x.Num = n) | none => false) = none) : ∀ i (hi : i < l.length), l[i].Num ≠ n := by
 rw [List.find?_range_eq_none] at h
 intro i hi
 have := h i hi
 rw [List.getElem?_eq_getElem hi] at this
 simpa using this
theorem Tt (l : Log) (n : Int) (hl : l.Lines.length < 4000000000) (hN : 4294967300 < N) : GX N l n = some (Tz l n) := by
 unfold GX Bp Tz
 have hb : ∀ i (h : i < l.Lines.length), AE N l.Lines (fun y0 => CI N y0 n) (i : Int) = some (bif decide (l.Lines[i].Num = n) then .ret (i : Int) else .next ((i + 1 : Nat) : Int)) := fun i h => by
  unfold AE CI
  rw [B5 h, cond_true, Bi h, Option.bind_some, Option.bind_some, E9, Iq i (by omega)]
  cases decide (l.Lines[i].Num = n) <;> rfl
 cases hf : (List.range l.Lines.length).find? fun i => match l.Lines[i]? with | some x => decide (x.Num = n) | none => false with
 | some k =>
  obtain ⟨hk, h1, h2⟩ := NW hf
  have := FT (N := N) (body := AE N l.Lines (fun y0 => CI N y0 n)) (fun i => (i : Int)) (o := .ret (k : Int)) k (fun i hi => by
   rw [hb i (by omega), decide_eq_false (h2 i (by omega) hi)]; rfl) (by rw [hb k hk, decide_eq_true h1]; rfl) (fun _ h => by cases h) (by omega)
  rw [show (0 : Int) = ((0 : Nat) : Int) from rfl, this]
  show (bif decide ((k : Int) < 0) then some ((0 : Int), (3 : Int)) else some ((k : Int), (0 : Int))) = _
  rw [decide_eq_false (by omega)]; rfl
 | none =>
  have h2 := NX hf
  have := FT (N := N) (body := AE N l.Lines (fun y0 => CI N y0 n)) (fun i => (i : Int)) (o := .done (l.Lines.length : Int)) l.Lines.length (fun i hi => by
   rw [hb i hi, decide_eq_false (h2 i hi)]; rfl) (by
   unfold AE
   rw [BN, cond_false]) (fun _ h => by cases h) (by omega)
  rw [show (0 : Int) = ((0 : Nat) : Int) from rfl, this]
  rfl
theorem Tb (l : Log) (n : Int) (hl : l.Lines.length < 4000000000) (hN : 4294967300 < N) : FJ N l n = some (Tz l n) := by
 unfold FJ Tz
 have hb : ∀ i (h : i < l.Lines.length), Ba N l n (i : Int) = some (bif decide (l.Lines[i].Num = n) then .ret ((i : Int), 0) else .next ((i + 1 : Nat) : Int)) := fun i h => by
  unfold Ba
  rw [B5 h, cond_true, Bi h, Option.bind_some, E9, Iq i (by omega)]
  cases decide (l.Lines[i].Num = n) <;> rfl
 cases hf : (List.range l.Lines.length).find? fun i => match l.Lines[i]? with | some x => decide (x.Num = n) | none => false with
 | some k =>
  obtain ⟨hk, h1, h2⟩ := NW hf
  have := FT (N := N) (body := Ba N l n) (fun i => (i : Int)) (o := .ret ((k : Int), 0)) k (fun i hi => by
   rw [hb i (by omega), decide_eq_false (h2 i (by omega) hi)]; rfl) (by rw [hb k hk, decide_eq_true h1]; rfl) (fun _ h => by cases h) (by omega)
  rw [show AL (Ba N l n) N 0 = AL (Ba N l n) N ((0 : Nat) : Int) from rfl, this]
  rfl
 | none =>
  have h2 := NX hf
  have := FT (N := N) (body := Ba N l n) (fun i => (i : Int)) (o := .done (l.Lines.length : Int)) l.Lines.length (fun i hi => by
   rw [hb i hi, decide_eq_false (h2 i hi)]; rfl) (by
   unfold Ba
   rw [BN, cond_false]) (fun _ h => by cases h) (by omega)
  rw [show AL (Ba N l n) N 0 = AL (Ba N l n) N ((0 : Nat) : Int) from rfl, this]
  rfl
theorem HG {α : Type} (f : Line -> α) (l : List Line) (hl : l.length < 4000000000) (hN : 4294967300 < N) {ρ : Type} {body : (List α × Int) -> Option (A8 ρ (List α × Int))}
  (hb : ∀ i (h : i < l.length) s, body (s, (i : Int)) = ((Cr s [f l[i]]).bind fun r => some (.next (r, (W64 ((i : Int) + 1)))))) (he : ∀ s, body (s, (l.length : Int)) = some (.done (s, (l.length : Int)))) :
  AL body N (([] : List α), 0) = some (.done (l.map f, (l.length : Int))) := by
 have := FT (N := N) (body := body) (fun i => ((l.take i).map f, (i : Int))) (o := .done (l.map f, (l.length : Int))) l.length (fun i hi => by
  rw [hb i hi, Iq i (by omega)]
  unfold Cr
  rw [if_pos (by simp; omega), List.take_add_one, List.getElem?_eq_getElem hi, List.map_append]
  rfl) (by rw [he, List.take_length]) (fun _ h => by cases h) (by omega)
 exact this
theorem Ts (l : Log) (hl : l.Lines.length < 4000000000) (hN : 4294967300 < N) : GW N l = some (l.Lines.map fun x => x.Minute) := by
 unfold GW D5
 rw [HG (fun x => x.Minute) l.Lines hl hN (fun i h s => by
  unfold B8
  simp only
  rw [B5 h, cond_true, Bi h, Option.bind_some]; rfl) (fun s => by
  unfold B8
  simp only
  rw [BN, cond_false])]
 rfl
theorem Rj (l : Log) (hl : l.Lines.length < 4000000000) (hN : 4294967300 < N) : E1 N l = some (l.Lines.map fun x => x.Sent.Serial) := by
 unfold E1 D5
 rw [HG (fun x => x.Sent.Serial) l.Lines hl hN (fun i h s => by
  unfold B8
  simp only
  rw [B5 h, cond_true, Bi h, Option.bind_some]; rfl) (fun s => by
  unfold B8
  simp only
  rw [BN, cond_false])]
 rfl
theorem S9 (l : Log) (hl : l.Lines.length < 4000000000) (hN : 4294967300 < N) : FG N l = some (l.Lines.map fun x => x.Minute) := by
 unfold FG
 rw [HG (fun x => x.Minute) l.Lines hl hN (fun i h s => by
  unfold D2
  simp only
  rw [B5 h, cond_true, Bi h, Option.bind_some]) (fun s => by
  unfold D2
  simp only
  rw [BN, cond_false])]
 rfl
theorem Q6 (l : Log) (hl : l.Lines.length < 4000000000) (hN : 4294967300 < N) : Eu N l = some (l.Lines.map fun x => x.Sent.Serial) := by
 unfold Eu
 rw [HG (fun x => x.Sent.Serial) l.Lines hl hN (fun i h s => by
  unfold Dd
  simp only
  rw [B5 h, cond_true, Bi h, Option.bind_some]) (fun s => by
  unfold Dd
  simp only
  rw [BN, cond_false])]
 rfl
end
abbrev Le (a b : Vo) : Prop := a <= b
abbrev Ltt (a b : Vo) : Prop := a < b
theorem TL (a b : Vo) : Hz a b = decide (a < b) := Go.Proofs.bytesLess_eq a b
theorem K7 {a b : Vo} (h : a <= b) (hn : a ≠ b) : a < b := Classical.byContradiction fun hl => hn (List.le_antisymm h (List.not_lt.1 hl))
theorem Oa (l : List Vo) : (FE l).Pairwise Le := by
 unfold FE
 have := List.pairwise_mergeSort (le := fun x y : Vo => decide (x <= y)) (by intro a b c h1 h2; rw [decide_eq_true_eq] at h1 h2 ⊢; exact List.le_trans h1 h2) (by intro a b; rw [Bool.or_eq_true, decide_eq_true_eq, decide_eq_true_eq]; exact List.le_total a b) l
 exact this.imp (fun h => by rw [decide_eq_true_eq] at h; exact h)
theorem QW {l : List Vo} {x : Vo} : x ∈ FE l ↔ x ∈ l := by
 unfold FE; exact (List.mergeSort_perm l _).mem_iff
theorem Kh (zs : List Vo) {j : Nat} (h : j < zs.length) : zs.toArray[j]! = zs[j] := by simp [h]
theorem OI {zs : List Vo} {x : Vo} : x ∈ Go.Lib.compact zs ↔ x ∈ zs := by
 constructor
 ·intro h
  unfold Go.Lib.compact Go.Lib.compactUpTo at h
  obtain ⟨j, hj, rfl⟩ := List.mem_map.1 h
  have := List.mem_range.1 (List.mem_filter.1 hj).1
  rw [Kh zs this]; exact List.getElem_mem this
 ·intro h
  obtain ⟨j, hj, hx⟩ := List.getElem_of_mem h
  have key : ∀ n j, j <= n -> ∀ hj : j < zs.length, zs[j] = x -> x ∈ Go.Lib.compact zs := by
   intro n
   induction n with
   | zero =>
    intro j hjn hj hx
    have : j = 0 := by omega
    subst this
    unfold Go.Lib.compact Go.Lib.compactUpTo
    rw [List.mem_map]
    exact ⟨0, by rw [List.mem_filter, List.mem_range]; exact ⟨hj, by simp [Go.Lib.keeps]⟩, by rw [Kh zs hj]; exact hx⟩
   | succ n ih =>
    intro j hjn hj hx
    by_cases hk : Go.Lib.keeps zs.toArray j = true
    ·unfold Go.Lib.compact Go.Lib.compactUpTo
     rw [List.mem_map]
     exact ⟨j, by rw [List.mem_filter, List.mem_range]; exact ⟨hj, hk⟩, by rw [Kh zs hj]; exact hx⟩
    ·unfold Go.Lib.keeps at hk
     rw [decide_eq_true_eq] at hk
     have h0 : j ≠ 0 := fun h => hk (.inl h)
     have h1 : zs.toArray[j]! = zs.toArray[j - 1]! := Classical.byContradiction fun h => hk (.inr h)
     rw [Kh zs hj, Kh zs (show j - 1 < zs.length by omega)] at h1
     exact ih (j - 1) (by omega) (by omega) (by rw [<- h1]; exact hx)
  exact key j j (Nat.le_refl _) hj hx
theorem LP {zs : List Vo} (h : zs.Pairwise Le) : (Go.Lib.compact zs).Pairwise Ltt := by
 unfold Go.Lib.compact Go.Lib.compactUpTo
 rw [List.pairwise_map]
 have hr : ((List.range zs.length).filter (Go.Lib.keeps zs.toArray)).Pairwise (· < ·) := List.pairwise_lt_range.filter _
 refine hr.imp_of_mem ?_
 intro i j hi hj hij
 have h1 := List.mem_range.1 (List.mem_filter.1 hi).1
 have h2 := List.mem_range.1 (List.mem_filter.1 hj).1
 have hk := (List.mem_filter.1 hj).2
 unfold Go.Lib.keeps at hk
 rw [decide_eq_true_eq] at hk
 have hne : zs.toArray[j]! ≠ zs.toArray[j - 1]! := by
  rcases hk with h | h
  ·omega
  ·exact h
 rw [Kh zs h2, Kh zs (show j - 1 < zs.length by omega)] at hne
 rw [Kh zs h1, Kh zs h2]
 have a1 : zs[i] <= zs[j - 1]'(by omega) := by
  rcases Nat.lt_or_ge i (j - 1) with h' | h'
  ·exact List.pairwise_iff_getElem.1 h i (j - 1) h1 (by omega) h'
  ·have : i = j - 1 := by omega
   subst this; exact List.le_refl _
 have a2 : zs[j - 1]'(by omega) <= zs[j] := List.pairwise_iff_getElem.1 h (j - 1) j (by omega) h2 (by omega)
 exact K7 (List.le_trans a1 a2) fun e => hne (List.le_antisymm (by rw [<- e]; exact a1) a2)
theorem K0 : ∀ {l m : List Vo}, l.Pairwise Ltt -> m.Pairwise Ltt -> (∀ x, x ∈ l ↔ x ∈ m) -> l = m
 | [], [], _, _, _ => rfl
 | [], b :: m, _, _, h => absurd ((h b).2 (by simp)) (by simp)
 | a :: l, [], _, _, h => absurd ((h a).1 (by simp)) (by simp)
 | a :: l, b :: m, hl, hm, h => by
  rw [List.pairwise_cons] at hl hm
  have hab : a = b := by
   have h1 := (h a).1 (by simp)
   have h2 := (h b).2 (by simp)
   rcases List.mem_cons.1 h1 with e | h1
   ·exact e
   ·rcases List.mem_cons.1 h2 with e | h2
    ·exact e.symm
    ·exact absurd (List.lt_trans (hm.1 a h1) (hl.1 b h2)) (List.lt_irrefl _)
  subst hab
  congr 1
  refine K0 hl.2 hm.2 fun x => ⟨fun hx => ?_, fun hx => ?_⟩
  ·rcases List.mem_cons.1 ((h x).1 (by simp [hx])) with e | h'
   ·subst e; exact absurd (hl.1 x hx) (List.lt_irrefl _)
   ·exact h'
  ·rcases List.mem_cons.1 ((h x).2 (by simp [hx])) with e | h'
   ·subst e; exact absurd (hm.1 x hx) (List.lt_irrefl _)
   ·exact h'
section
variable {N : Nat}
def stS (l : List Line) : List Vo := Go.Lib.compact (FE (l.map fun x => x.Call))
theorem PK (l : List Line) : (stS l).Pairwise Ltt := LP (Oa _)
theorem ST {l : List Line} {c : Vo} : c ∈ stS l ↔ ∃ x, x ∈ l /\ x.Call = c := by
 unfold stS; rw [OI, QW, List.mem_map]
theorem SU (l : List Line) : (stS l).length <= l.length := by
 unfold stS
 have := Go.Lib.compact_length_le (FE (l.map fun x => x.Call))
 unfold FE at this ⊢
 simpa using this
theorem P9 (l : Log) (hl : l.Lines.length < 4000000000) (hN : 4294967300 < N) : Ey N l = some (stS l.Lines) := by
 unfold Ey
 rw [HG (fun x => x.Call) l.Lines hl hN (fun i h s => by
  unfold Df
  simp only
  rw [B5 h, cond_true, Bi h, Option.bind_some]) (fun s => by
  unfold Df
  simp only
  rw [BN, cond_false])]
 show (((some (FE _)).bind fun r89 => (A2 N r89).bind fun r98 => some r98)) = _
 unfold A2
 rw [Option.bind_some, if_pos (Go.Lib.compact_length_le _)]
 rfl
def BM (s : List Vo) (c : Vo) : Nat := s.findIdx fun y => !decide (y < c)
theorem Pa (s : List Vo) (c : Vo) : BM s c <= s.length := List.findIdx_le_length
theorem O9 {s : List Vo} {c : Vo} {i : Nat} (h : i < BM s c) (hi : i < s.length) : s[i] < c := by
 have := List.not_of_lt_findIdx h
 simpa using this
theorem Pb {s : List Vo} {c : Vo} (h : BM s c < s.length) : ¬ s[BM s c] < c := by
 have := List.findIdx_getElem (w := h) (p := fun y => !decide (y < c))
 unfold BM
 simpa using this
def Jn (s : List Vo) (c : Vo) : List Vo := if s[BM s c]? = some c then s else s.take (BM s c) ++ c :: s.drop (BM s c)
theorem SL {s : List Vo} {c x : Vo} : x ∈ Jn s c ↔ x ∈ s \/ x = c := by
 unfold Jn
 split
 ·rename_i h
  constructor
  ·exact .inl
  ·rintro (h' | rfl)
   ·exact h'
   ·exact List.mem_of_getElem? h
 ·rw [List.mem_append, List.mem_cons]
  constructor
  ·rintro (h | rfl | h)
   ·exact .inl (List.mem_of_mem_take h)
   ·exact .inr rfl
   ·exact .inl (List.mem_of_mem_drop h)
  ·rintro (h | rfl)
   ·rw [<- List.take_append_drop (BM s c) s] at h
    rcases List.mem_append.1 h with h | h
    ·exact .inl h
    ·exact .inr (.inr h)
   ·exact .inr (.inl rfl)
theorem PF {s : List Vo} (hs : s.Pairwise Ltt) (c : Vo) : (Jn s c).Pairwise Ltt := by
 unfold Jn
 split
 ·exact hs
 ·rename_i hne
  have h1 : ∀ y, y ∈ s.take (BM s c) -> y < c := by
   intro y hy
   rw [List.mem_take_iff_getElem] at hy
   obtain ⟨j, hj, rfl⟩ := hy
   exact O9 (by omega) _
  have h2 : ∀ y, y ∈ s.drop (BM s c) -> c < y := by
   intro y hy
   rw [List.mem_drop_iff_getElem] at hy
   obtain ⟨j, hj, rfl⟩ := hy
   have hp : BM s c < s.length := by omega
   have hle : c <= s[BM s c] := List.not_lt.1 (Pb hp)
   have hlt : c < s[BM s c] := K7 hle fun e => hne (by rw [List.getElem?_eq_getElem hp, <- e])
   rcases Nat.eq_zero_or_pos j with h0 | h0
   ·subst h0; simpa using hlt
   ·exact List.lt_trans hlt (List.pairwise_iff_getElem.1 hs _ _ hp (by omega) (by omega))
  rw [List.pairwise_append, List.pairwise_cons]
  refine ⟨hs.sublist (List.take_sublist _ _), ⟨h2, hs.sublist (List.drop_sublist _ _)⟩, fun a ha b hb => ?_⟩
  rcases List.mem_cons.1 hb with rfl | hb
  ·exact h1 a ha
  ·exact List.lt_trans (h1 a ha) (h2 b hb)
theorem SM (s : List Vo) (c : Vo) : (Jn s c).length <= s.length + 1 := by
 unfold Jn
 split
 ·omega
 ·rw [List.length_append, List.length_cons, List.length_take, List.length_drop]
  have := Pa s c
  omega
theorem Rq (l : List Line) : ∀ s : List Vo, (l.foldl (fun s x => Jn s x.Call) s).length <= s.length + l.length := by
 induction l with
 | nil => intro s; simp
 | cons x l ih =>
  intro s
  rw [List.foldl_cons, List.length_cons]
  have := ih (Jn s x.Call)
  have := SM s x.Call
  omega
theorem Oy (l : List Line) : ∀ s : List Vo, s.Pairwise Ltt -> (l.foldl (fun s x => Jn s x.Call) s).Pairwise Ltt := by
 induction l with
 | nil => intro s h; exact h
 | cons x l ih => intro s h; exact ih _ (PF h _)
theorem Rp (l : List Line) : ∀ (s : List Vo) (c : Vo), c ∈ l.foldl (fun s x => Jn s x.Call) s ↔ c ∈ s \/ ∃ x, x ∈ l /\ x.Call = c := by
 induction l with
 | nil => intro s c; simp
 | cons x l ih =>
  intro s c
  rw [List.foldl_cons, ih, SL]
  constructor
  ·rintro ((h | rfl) | ⟨y, h1, h2⟩)
   ·exact .inl h
   ·exact .inr ⟨x, by simp, rfl⟩
   ·exact .inr ⟨y, by simp [h1], h2⟩
  ·rintro (h | ⟨y, h1, h2⟩)
   ·exact .inl (.inl h)
   ·rcases List.mem_cons.1 h1 with rfl | h1
    ·exact .inl (.inr h2.symm)
    ·exact .inr ⟨y, h1, h2⟩
theorem RJ (l : List Line) : stS l = l.foldl (fun s x => Jn s x.Call) [] :=
 K0 (PK l) (Oy l [] List.Pairwise.nil) fun c => by rw [ST, Rp]; simp
theorem GM {α : Type} {l m : List α} (h : l.length + m.length < 4294967296) : Cr l m = some (l ++ m) := if_pos h
theorem N7 {α : Type} {l : List α} {i j : Nat} (h : i <= j) (hj : j <= l.length) : sub l (i : Int) (j : Int) = some ((l.take j).drop i) := by
 unfold sub
 rw [if_pos ⟨by omega, by omega, by omega⟩]
 simp
theorem P1 (l : Log) (hl : l.Lines.length < 2000000000) (hN : 4294967300 < N) : D3 N l = some (stS l.Lines) := by
 unfold D3
 have key := FT (N := N) (body := Ch N l) (fun i => ((l.Lines.take i).foldl (fun s x => Jn s x.Call) [], (i : Int))) (o := .done (stS l.Lines, (l.Lines.length : Int))) l.Lines.length (fun i hi => by
  unfold Ch
  simp only
  rw [B5 hi, cond_true, Bi hi, Option.bind_some, List.take_add_one, List.getElem?_eq_getElem hi, List.foldl_append]
  simp only [Option.toList_some, List.foldl_cons, List.foldl_nil]
  have hsl := Rq (l.Lines.take i) []
  have hsl2 : (l.Lines.take i).length <= l.Lines.length := by simp; omega
  generalize (l.Lines.take i).foldl (fun s x => Jn s x.Call) [] = s at *
  rw [List.length_nil] at hsl
  generalize hc : l.Lines[i].Call = c
  have hp := Pa s c
  have h1 := FT (N := N) (body := Bw N l (s, (i : Int)) l.Lines[i]) (fun j => (j : Int)) (o := .done (BM s c : Int)) (BM s c) (fun j hj => by
   unfold Bw
   simp only
   rw [B5 (show j < s.length by omega), cond_true, Bi (by omega), Option.bind_some, Option.bind_some, hc, TL, decide_eq_true (O9 hj (by omega)), cond_true, Iq j (by omega)]) (by
   unfold Bw
   simp only
   by_cases h : BM s c < s.length
   ·rw [B5 h, cond_true, Bi h, Option.bind_some, Option.bind_some, hc, TL, decide_eq_false (Pb h), cond_false]
   ·have : BM s c = s.length := by omega
    rw [this, BN, cond_false, Option.bind_some, cond_false]) (fun _ h => by cases h) (by omega)
  rw [show AL (Bw N l (s, (i : Int)) l.Lines[i]) N 0 = AL (Bw N l (s, (i : Int)) l.Lines[i]) N ((0 : Nat) : Int) from rfl, h1, Option.bind_some]
  show ((bif (decide ((BM s c : Int) < (s.length : Int))) then ((idx s (BM s c : Int)).bind fun x145 => some (x145 == c)) else some false).bind fun j132 => _) = _
  unfold Jn
  by_cases h : BM s c < s.length
  ·rw [B5 h, cond_true, Bi h, Option.bind_some, Option.bind_some, E9, List.getElem?_eq_getElem h]
   by_cases he : s[BM s c] = c
   ·rw [decide_eq_true he, cond_true, Iq i (by omega), if_pos (by rw [he])]
   ·rw [decide_eq_false he, cond_false, if_neg (fun e => he (Option.some.inj e))]
    have e0 : sub s 0 (BM s c : Int) = some (s.take (BM s c)) := by
     have := N7 (l := s) (i := 0) (j := BM s c) (by omega) hp
     simpa using this
    have e1 : sub s (BM s c : Int) (s.length : Int) = some (s.drop (BM s c)) := by
     have := N7 (l := s) (i := BM s c) (j := s.length) hp (Nat.le_refl _)
     rwa [List.take_length] at this
    rw [e0, Option.bind_some, GM (by simp; omega), Option.bind_some, GM (by simp; omega), Option.bind_some, e1, Option.bind_some, GM (by simp; omega), Option.bind_some, Iq i (by omega)]
    simp
  ·have hpe : BM s c = s.length := by omega
   rw [show decide ((BM s c : Int) < (s.length : Int)) = false by rw [hpe, BN], cond_false, Option.bind_some, cond_false, if_neg (by rw [List.getElem?_eq_none (by omega)]; intro e; cases e)]
   have e0 : sub s 0 (BM s c : Int) = some (s.take (BM s c)) := by
    have := N7 (l := s) (i := 0) (j := BM s c) (by omega) hp
    simpa using this
   have e1 : sub s (BM s c : Int) (s.length : Int) = some (s.drop (BM s c)) := by
    have := N7 (l := s) (i := BM s c) (j := s.length) hp (Nat.le_refl _)
    rwa [List.take_length] at this
   rw [e0, Option.bind_some, GM (by simp; omega), Option.bind_some, GM (by simp; omega), Option.bind_some, e1, Option.bind_some, GM (by simp; omega), Option.bind_some, Iq i (by omega)]
   simp) (by
  unfold Ch
  simp only
  rw [BN, cond_false, List.take_length, RJ]) (fun _ h => by cases h) (by omega)
 rw [show (([] : List Vo), (0 : Int)) = ((l.Lines.take 0).foldl (fun s x => Jn s x.Call) [], ((0 : Nat) : Int)) from rfl, key]
 rfl
theorem Pi (l m : Log) (x : BJ) (hj : l.Jumps.length < 9223372036854775808) (hjN : l.Jumps.length < N) (hN : 4294967300 < N) : DJ N l m x = some true := by
 unfold DJ
 rw [show HN N = some true from rfl, Option.bind_some]
 by_cases h1 : l.Lines.length > 60
 ·rw [decide_eq_true (show (l.Lines.length : Int) > 60 by omega)]; rfl
 rw [decide_eq_false (show ¬ (l.Lines.length : Int) > 60 by omega), cond_false]
 by_cases h2 : m.Lines.length > 60
 ·rw [decide_eq_true (show (m.Lines.length : Int) > 60 by omega)]; rfl
 rw [decide_eq_false (show ¬ (m.Lines.length : Int) > 60 by omega), cond_false, Tn _ (by omega) hN, Option.bind_some]
 have hl : l.Lines.length < 4000000000 := by omega
 have w1 : ∀ p, (I4 p l.Lines).length < 4000000000 := fun p => by have := KY p l.Lines l.Lines.length; unfold FD at this; unfold I4; omega
 cases hp : l.Lines.all fun x => decide (x.Call.length <= 40) with
 | false => rfl
 | true =>
  rw [Bool.not_true, cond_false]
  by_cases h3 : x.Call.length > 40
  ·rw [decide_eq_true (show (x.Call.length : Int) > 40 by omega)]; rfl
  ·rw [decide_eq_false (show ¬ (x.Call.length : Int) > 40 by omega), Option.bind_some, cond_false]
   rw [Tt _ _ hl hN, Tb _ _ hl hN, UP _ _ hl hN, UL _ _ hl hN, Ux _ _ hl hN, Us _ _ hl hN, P9 _ hl hN, P1 _ (by omega) hN, Ts _ hl hN, S9 _ hl hN, Rj _ hl hN, Q6 _ hl hN, R8 _ _ hj hjN hl hN, TZ _ _ hj hjN hl hN, R8 _ _ hj hjN hl hN]
   simp only [Option.bind_some, bne_self_eq_false, cond_false, beq_self_eq_true, cond_true]
   rw [Jy _ _ (by have := w1 (fun x' => decide (x'.Call = x.Call)); unfold ofS; omega) (by have := w1 (fun x' => decide (x'.Call = x.Call)); unfold ofS; omega), Jy _ _ (by have := w1 (fun y => decide (x.Span.Lo <= y.Minute) && decide (y.Minute <= x.Span.Hi)); unfold TF; omega) (by have := w1 (fun y => decide (x.Span.Lo <= y.Minute) && decide (y.Minute <= x.Span.Hi)); unfold TF; omega), Ta _ _ (by have := SU l.Lines; omega) hN, Jy _ _ (by simp; omega) (by simp; omega), Jy _ _ (by simp; omega) (by simp; omega)]
   simp
end
theorem Rk (x0 x1 : Log) (x2 : BJ) (h : Ut x0) {Q R : Prop} (_ : Q) (_ : R) : DJ 9223372036854775808 x0 x1 x2 = some true := Pi x0 x1 x2 h.2.2.2.2.1.1 h.2.2.2.2.1.1 (by decide)
end Go.Proofs.YthljkpeimofbbaaGreatDoor
