/- Lemmas of the claim LogsFinds, printed by a program of the claimant and by hand. No statement of the seat is proved here. -/
import Derived.Test.YthljkpeimofbbaaGreatDoorE17x4
set_option linter.unusedVariables false
set_option linter.unusedSimpArgs false
set_option linter.unusedSectionVars false
set_option maxHeartbeats 4000000
set_option maxRecDepth 100000
namespace Go.Proofs.YthljkpeimofbbaaGreatDoor
def FH (N : Nat) (x0 : Ac) (x1 : Log) (x2 : (List Fix)) (r30 : (Int × Int)) (j47 : (List Int × List Line)) : (List Fix × Int × Bool × Bool × Bool × UX × Int × Int × Int × List Int × List Line) -> Option (Ba (Log × (List Fix) × Int × Int) (List Fix × Int × Bool × Bool × Bool × UX × Int × Int × Int × List Int × List Line)) := fun s180 =>
 (bif (decide (s180.2.1 < (x2.length : Int))) then ((idx x2 s180.2.1).bind fun x213 => (bif (x213.Kind == 1) then ((EW N ({ o_ := ({ Report := s180.2.2.1, Serial := s180.2.2.2.1, Zone := s180.2.2.2.2.1 } : Ac), l_ := ({ Call := s180.2.2.2.2.2.1, Category := s180.2.2.2.2.2.2.1, Power := s180.2.2.2.2.2.2.2.1, Claimed := s180.2.2.2.2.2.2.2.2.1, Jumps := s180.2.2.2.2.2.2.2.2.2.1, Lines := s180.2.2.2.2.2.2.2.2.2.2 } : Log) } : A3) x213).bind fun r236 => (bif (!r236.2.2) then none else ((CC s180.1 [r236.2.1]).bind fun r256 => some (.next (r256, (W64 (s180.2.1 + 1)), r236.1.o_.Report, r236.1.o_.Serial, r236.1.o_.Zone, r236.1.l_.Call, r236.1.l_.Category, r236.1.l_.Power, r236.1.l_.Claimed, r236.1.l_.Jumps, r236.1.l_.Lines))))) else none)) else some (.done (s180.1, s180.2.1, s180.2.2.1, s180.2.2.2.1, s180.2.2.2.2.1, s180.2.2.2.2.2.1, s180.2.2.2.2.2.2.1, s180.2.2.2.2.2.2.2.1, s180.2.2.2.2.2.2.2.2.1, s180.2.2.2.2.2.2.2.2.2.1, s180.2.2.2.2.2.2.2.2.2.2)))
def Ho (N : Nat) (x0 : Ac) (x1 : Log) (x2 : (List Fix)) : Option (Log × (List Fix) × Int × Int) :=
 ((DH N ({ Report := x0.Report, Serial := x0.Serial, Zone := x0.Zone } : Ac) x1).bind fun r30 => (bif (r30.1 != 0) then none else (((Ey N x1.Jumps).bind fun r55 => ((Ch N x1.Lines).bind fun r73 => some (r55, r73))).bind fun j47 => ((AQ (FH N x0 x1 x2 r30 j47) N (([] : List Fix), 0, x0.Report, x0.Serial, x0.Zone, x1.Call, x1.Category, x1.Power, x1.Claimed, j47.1, j47.2)).bind fun o => o.k (fun r => some r) (fun s194 => (((CI N ({ Report := x0.Report, Serial := x0.Serial, Zone := x0.Zone } : Ac) ({ Call := s194.2.2.2.2.2.1, Category := s194.2.2.2.2.2.2.1, Power := s194.2.2.2.2.2.2.2.1, Claimed := s194.2.2.2.2.2.2.2.2.1, Jumps := s194.2.2.2.2.2.2.2.2.2.1, Lines := s194.2.2.2.2.2.2.2.2.2.2 } : Log)).bind fun r283 => some (!r283)).bind fun j274 => (bif j274 then none else some (({ Call := s194.2.2.2.2.2.1, Category := s194.2.2.2.2.2.2.1, Power := s194.2.2.2.2.2.2.2.1, Claimed := s194.2.2.2.2.2.2.2.2.1, Jumps := s194.2.2.2.2.2.2.2.2.2.1, Lines := s194.2.2.2.2.2.2.2.2.2.2 } : Log), s194.1, 0, 0))))))))
theorem Ju : Ae Tryz.prog 120 := fun _ _ => by kernel_rfl
theorem Kc (N : Nat) (w0 : World) (F0 : Mem) (hF : UZ w0 F0) (hG : Bq F0) (x0 : Ac) (x1 : Log) (a1_4 : UY) (n1_4 : Nat) (hb1_4 : LC x1.Jumps.length n1_4) (hs1_4 : SlA AB F0 a1_4 x1.Jumps) (a1_5 : UY) (n1_5 : Nat) (hb1_5 : LC x1.Lines.length n1_5) (hs1_5 : SlA AF F0 a1_5 x1.Lines) (x2 : (List Fix)) (a2_0 : UY) (n2_0 : Nat) (hb2_0 : LC x2.length n2_0) (hs2_0 : SlA I4 F0 a2_0 x2) (r : (Log × (List Fix) × Int × Int)) (h : Ho N x0 x1 x2 = some r) :
  Calls Tryz.prog 120 ([(.agg (Ai x0)), (.agg (AC x1 a1_4 n1_4 a1_5 n1_5)), (.slice a2_0 x2.length n2_0)] : List Value).toArray w0 (Mt w0 F0 fun F' v L' => ∃ (aq0_4 : UY) (nq0_4 : Nat) (aq0_5 : UY) (nq0_5 : Nat) (eq0_5 : Option Nat × Obj) (aq1_0 : UY) (nq1_0 : Nat) (eq1_0 : Option Nat × Obj), v = (.tuple #[(.agg (AC r.1 aq0_4 nq0_4 aq0_5 nq0_5)), (.slice aq1_0 r.2.1.length nq1_0), (vi r.2.2.1), (vi r.2.2.2)]) /\ L' = [eq0_5, eq1_0] /\ LC r.1.Jumps.length nq0_4 /\ SlA AB F' aq0_4 r.1.Jumps /\ Ap AF 34 F' aq0_5 nq0_5 r.1.Lines eq0_5 /\ Ap I4 64 F' aq1_0 nq1_0 r.2.1 eq1_0) := by
 have hs0 := UE hF
 refine Go 99 Tryz.func120 <| Sq (Rg (rG 6) ?_)
 refine Bx' 23 (Ai x0) hs0 (fun b21 w22 hs23 => ?_)
 refine Bx' 27 (AC x1 a1_4 n1_4 a1_5 n1_5) hs23 (fun b24 w25 hs26 => ?_)
 refine Al' 27 #[(sv (([] : UX))), (vi 0), (vi 0), (vi 0), (.slice none ([] : List Int).length 0), (.slice none ([] : List Line).length 0)] hs26 (fun b27 w28 hs29 => ?_)
 refine Vs 3 <| Nss <| Sq (Rg (rG 8) ?_)
 refine Ld hs29.at2 <| Ld hs29.at1 ?_
 obtain ⟨r30, hr31, h32⟩ := bind_some h
 refine Cl' FX hs29 (GQ N w28 F0 hs29.pers hG (({ Report := x0.Report, Serial := x0.Serial, Zone := x0.Zone } : Ac)) x1 a1_4 n1_4 hb1_4 hs1_4 a1_5 n1_5 hb1_5 hs1_5 _ hr31) ?_
 rintro _ F1 w34 hs35 le36 rfl
 refine Vs 5 <| Nss (Rg [0, 1] ?_)
 refine Vs 2 <| Nt <| Cd h32 (fun hb38 h39 => ?_) (fun hb38 h40 => ?_)
 ·cases h39
 ·refine Sc ?_
  refine Ab <| Sq ?_
  obtain ⟨j47, hj53, h54⟩ := bind_some h40
  refine RD 9 10 [(sb b27 #[(sv (([] : UX))), (vi 0), (vi 0), (vi 0), (.slice none ([] : List Int).length 0), (.slice none ([] : List Line).length 0)] 27), (sb b21 (Ai x0) 23)] [] hs35 (fun f w => ∃ (F2 : Mem) (aj47_0 : UY) (nj47_0 : Nat) (aj47_1 : UY) (nj47_1 : Nat) (ej47_1 : Option Nat × Obj), HS w0 F0 w F2 [ej47_1, (sb b27 #[(sv (([] : UX))), (vi 0), (vi 0), (vi 0), (.slice none ([] : List Int).length 0), (.slice none ([] : List Line).length 0)] 27), (sb b24 #[(sv x1.Call), (vi x1.Category), (vi x1.Power), (vi x1.Claimed), (.slice aj47_0 j47.1.length nj47_0), (.slice aj47_1 j47.2.length nj47_1)] 27), (sb b21 (Ai x0) 23)] /\ UC F1 F2 /\ FI f [] [(2, (.slice a2_0 x2.length n2_0)), (3, (pt b21 0)), (4, (pt b24 0)), (6, (pt b27 0))] /\ LC j47.1.length nj47_0 /\ SlA AB F2 aj47_0 j47.1 /\ Ap AF 34 F2 aj47_1 nj47_1 j47.2 ej47_1) (fun wd41 hw42 => ?_) ?_
  ·refine Dv [0, 3] ?_
   refine UL (i := 1) (j := 4) (by kernel_rfl) ?_ ?_
   ·refine UM (l' := [true, true, false, true, false, false, false, false, false, false]) (zd := false) (by kernel_rfl) (by kernel_rfl) (dst := (some 32)) (ty := 24) (g := none) (by kernel_rfl) rfl (Bz (t := 24) (x := (.tmp 31)) (b := b24) (o := 4) (g := false) (s := 1) (C := (AC x1 a1_4 n1_4 a1_5 n1_5)) (v := (.slice a1_4 x1.Jumps.length n1_4)) rfl (by kernel_rfl) hw42.at1 rfl rfl rfl) (A8 hw42 (UD _) (by simp) (fun _ => by simp)) ?_
    refine UL (i := 2) (j := 4) (by kernel_rfl) ?_ ?_
    ·obtain ⟨r55, hr56, h57⟩ := bind_some hj53
     refine Aw.callO (l' := [true, true, true, true, false, false, false, false, false, false]) (zd := false) (by kernel_rfl) (by kernel_rfl) (by kernel_rfl) (dst := (some 33)) (ty := 24) (g := none) (by kernel_rfl) rfl (f0 := (.func 176)) (aos := #[(.tmp 32)]) (ats := #[24]) (fid := 176) (first := #[]) (cap := #[]) (args := [(.slice a1_4 x1.Jumps.length n1_4)]) rfl Ck rfl hw42 (CA N wd41 F1 hw42.pers x1.Jumps a1_4 n1_4 hb1_4 (UF hs1_4 le36) _ hr56) ?_
     rintro _ F3 w59 _ hs60 le61 ⟨a63, n64, e65, rfl, rfl, hr66⟩
     have hs68 : HS w0 F0 w59 F3 [e65, (sb b27 #[(sv (([] : UX))), (vi 0), (vi 0), (vi 0), (.slice none ([] : List Int).length 0), (.slice none ([] : List Line).length 0)] 27), (sb b24 (AC x1 a1_4 n1_4 a1_5 n1_5) 27), (sb b21 (Ai x0) 23)] := hs60
     have hb72 := UQ hr66
     obtain ⟨F4, hs69, le70, hs71⟩ := hs68.fr0 hr66
     refine D1 4 <| UM (l' := [true, true, true, true, true, false, false, false, false, false]) (zd := false) (by kernel_rfl) (by kernel_rfl) (dst := (some 35)) (ty := 25) (g := none) (by kernel_rfl) rfl (Bz (t := 25) (x := (.tmp 34)) (b := b24) (o := 5) (g := false) (s := 1) (C := (AC x1 a1_4 n1_4 a1_5 n1_5)) (v := (.slice a1_5 x1.Lines.length n1_5)) rfl (by kernel_rfl) hs69.at1 rfl rfl rfl) (A8 hs69 (le61.t le70) (by simp) (fun _ => by simp)) <| Dv [6] <| D1 5 ?_
     obtain ⟨r73, hr74, h75⟩ := bind_some h57
     refine Aw.callO (l' := [true, true, true, true, true, true, true, false, false, false]) (zd := false) (by kernel_rfl) (by kernel_rfl) (by kernel_rfl) (dst := (some 36)) (ty := 25) (g := none) (by kernel_rfl) rfl (f0 := (.func 177)) (aos := #[(.tmp 35)]) (ats := #[25]) (fid := 177) (first := #[]) (cap := #[]) (args := [(.slice a1_5 x1.Lines.length n1_5)]) rfl Bt rfl hs69 (Bu N w59 F4 hs69.pers x1.Lines a1_5 n1_5 hb1_5 (UF hs1_5 ((le36.t le61).trans le70)) _ hr74) ?_
     rintro _ F5 w77 _ hs78 le79 ⟨a81, n82, e83, rfl, rfl, hr84⟩
     have hs86 : HS w0 F0 w77 F5 [e83, (sb b27 #[(sv (([] : UX))), (vi 0), (vi 0), (vi 0), (.slice none ([] : List Int).length 0), (.slice none ([] : List Line).length 0)] 27), (sb b24 (AC x1 a1_4 n1_4 a1_5 n1_5) 27), (sb b21 (Ai x0) 23)] := hs78
     refine D1 7 <| MR #[(sv x1.Call), (vi x1.Category), (vi x1.Power), (vi x1.Claimed), (.slice a63 r55.length n64), (.slice a1_5 x1.Lines.length n1_5)] hs86 ((le61.t le70).trans le79) (fun w87 hs88 => ?_)
     refine Dv [8] <| D1 9 <| MR #[(sv x1.Call), (vi x1.Category), (vi x1.Power), (vi x1.Claimed), (.slice a63 r55.length n64), (.slice a81 r73.length n82)] hs88 ((le61.t le70).trans le79) (fun w89 hs90 => ?_)
     obtain rfl := Aa h75
     exact UP (by kernel_rfl) ⟨F5, a63, n64, a81, n82, e83, hs90, ((le61.t le70).trans le79), fI, hb72, (UF hs71 le79), hr84⟩
    ·refine UM (l' := [true, true, false, true, true, false, false, false, false, false]) (zd := false) (by kernel_rfl) (by kernel_rfl) (dst := (some 35)) (ty := 25) (g := none) (by kernel_rfl) rfl (Bz (t := 25) (x := (.tmp 34)) (b := b24) (o := 5) (g := false) (s := 1) (C := (AC x1 a1_4 n1_4 a1_5 n1_5)) (v := (.slice a1_5 x1.Lines.length n1_5)) rfl (by kernel_rfl) hw42.at1 rfl rfl rfl) (A8 hw42 (UD _) (by simp) (fun _ => by simp)) ?_
     refine D1 2 ?_
     obtain ⟨r91, hr92, h93⟩ := bind_some hj53
     refine Aw.callO (l' := [true, true, true, true, true, false, false, false, false, false]) (zd := false) (by kernel_rfl) (by kernel_rfl) (by kernel_rfl) (dst := (some 33)) (ty := 24) (g := none) (by kernel_rfl) rfl (f0 := (.func 176)) (aos := #[(.tmp 32)]) (ats := #[24]) (fid := 176) (first := #[]) (cap := #[]) (args := [(.slice a1_4 x1.Jumps.length n1_4)]) rfl Ck rfl hw42 (CA N wd41 F1 hw42.pers x1.Jumps a1_4 n1_4 hb1_4 (UF hs1_4 le36) _ hr92) ?_
     rintro _ F6 w95 _ hs96 le97 ⟨a99, n100, e101, rfl, rfl, hr102⟩
     have hs104 : HS w0 F0 w95 F6 [e101, (sb b27 #[(sv (([] : UX))), (vi 0), (vi 0), (vi 0), (.slice none ([] : List Int).length 0), (.slice none ([] : List Line).length 0)] 27), (sb b24 (AC x1 a1_4 n1_4 a1_5 n1_5) 27), (sb b21 (Ai x0) 23)] := hs96
     have hb108 := UQ hr102
     obtain ⟨F7, hs105, le106, hs107⟩ := hs104.fr0 hr102
     refine Dv [6] <| D1 5 ?_
     obtain ⟨r109, hr110, h111⟩ := bind_some h93
     refine Aw.callO (l' := [true, true, true, true, true, true, true, false, false, false]) (zd := false) (by kernel_rfl) (by kernel_rfl) (by kernel_rfl) (dst := (some 36)) (ty := 25) (g := none) (by kernel_rfl) rfl (f0 := (.func 177)) (aos := #[(.tmp 35)]) (ats := #[25]) (fid := 177) (first := #[]) (cap := #[]) (args := [(.slice a1_5 x1.Lines.length n1_5)]) rfl Bt rfl hs105 (Bu N w95 F7 hs105.pers x1.Lines a1_5 n1_5 hb1_5 (UF hs1_5 ((le36.t le97).trans le106)) _ hr110) ?_
     rintro _ F8 w113 _ hs114 le115 ⟨a117, n118, e119, rfl, rfl, hr120⟩
     have hs122 : HS w0 F0 w113 F8 [e119, (sb b27 #[(sv (([] : UX))), (vi 0), (vi 0), (vi 0), (.slice none ([] : List Int).length 0), (.slice none ([] : List Line).length 0)] 27), (sb b24 (AC x1 a1_4 n1_4 a1_5 n1_5) 27), (sb b21 (Ai x0) 23)] := hs114
     refine D1 7 <| MR #[(sv x1.Call), (vi x1.Category), (vi x1.Power), (vi x1.Claimed), (.slice a99 r91.length n100), (.slice a1_5 x1.Lines.length n1_5)] hs122 ((le97.t le106).trans le115) (fun w123 hs124 => ?_)
     refine Dv [8] <| D1 9 <| MR #[(sv x1.Call), (vi x1.Category), (vi x1.Power), (vi x1.Claimed), (.slice a99 r91.length n100), (.slice a117 r109.length n118)] hs124 ((le97.t le106).trans le115) (fun w125 hs126 => ?_)
     obtain rfl := Aa h111
     exact UP (by kernel_rfl) ⟨F8, a99, n100, a117, n118, e119, hs126, ((le97.t le106).trans le115), fI, hb108, (UF hs107 le115), hr120⟩
   ·refine UM (l' := [true, false, false, true, true, false, false, false, false, false]) (zd := false) (by kernel_rfl) (by kernel_rfl) (dst := (some 35)) (ty := 25) (g := none) (by kernel_rfl) rfl (Bz (t := 25) (x := (.tmp 34)) (b := b24) (o := 5) (g := false) (s := 1) (C := (AC x1 a1_4 n1_4 a1_5 n1_5)) (v := (.slice a1_5 x1.Lines.length n1_5)) rfl (by kernel_rfl) hw42.at1 rfl rfl rfl) (A8 hw42 (UD _) (by simp) (fun _ => by simp)) ?_
    refine D1 1 <| UM (l' := [true, true, false, true, true, false, false, false, false, false]) (zd := false) (by kernel_rfl) (by kernel_rfl) (dst := (some 32)) (ty := 24) (g := none) (by kernel_rfl) rfl (Bz (t := 24) (x := (.tmp 31)) (b := b24) (o := 4) (g := false) (s := 1) (C := (AC x1 a1_4 n1_4 a1_5 n1_5)) (v := (.slice a1_4 x1.Jumps.length n1_4)) rfl (by kernel_rfl) hw42.at1 rfl rfl rfl) (A8 hw42 (UD _) (by simp) (fun _ => by simp)) <| D1 2 ?_
    obtain ⟨r127, hr128, h129⟩ := bind_some hj53
    refine Aw.callO (l' := [true, true, true, true, true, false, false, false, false, false]) (zd := false) (by kernel_rfl) (by kernel_rfl) (by kernel_rfl) (dst := (some 33)) (ty := 24) (g := none) (by kernel_rfl) rfl (f0 := (.func 176)) (aos := #[(.tmp 32)]) (ats := #[24]) (fid := 176) (first := #[]) (cap := #[]) (args := [(.slice a1_4 x1.Jumps.length n1_4)]) rfl Ck rfl hw42 (CA N wd41 F1 hw42.pers x1.Jumps a1_4 n1_4 hb1_4 (UF hs1_4 le36) _ hr128) ?_
    rintro _ F9 w131 _ hs132 le133 ⟨a135, n136, e137, rfl, rfl, hr138⟩
    have hs140 : HS w0 F0 w131 F9 [e137, (sb b27 #[(sv (([] : UX))), (vi 0), (vi 0), (vi 0), (.slice none ([] : List Int).length 0), (.slice none ([] : List Line).length 0)] 27), (sb b24 (AC x1 a1_4 n1_4 a1_5 n1_5) 27), (sb b21 (Ai x0) 23)] := hs132
    have hb144 := UQ hr138
    obtain ⟨F10, hs141, le142, hs143⟩ := hs140.fr0 hr138
    refine Dv [6] <| D1 5 ?_
    obtain ⟨r145, hr146, h147⟩ := bind_some h129
    refine Aw.callO (l' := [true, true, true, true, true, true, true, false, false, false]) (zd := false) (by kernel_rfl) (by kernel_rfl) (by kernel_rfl) (dst := (some 36)) (ty := 25) (g := none) (by kernel_rfl) rfl (f0 := (.func 177)) (aos := #[(.tmp 35)]) (ats := #[25]) (fid := 177) (first := #[]) (cap := #[]) (args := [(.slice a1_5 x1.Lines.length n1_5)]) rfl Bt rfl hs141 (Bu N w131 F10 hs141.pers x1.Lines a1_5 n1_5 hb1_5 (UF hs1_5 ((le36.t le133).trans le142)) _ hr146) ?_
    rintro _ F11 w149 _ hs150 le151 ⟨a153, n154, e155, rfl, rfl, hr156⟩
    have hs158 : HS w0 F0 w149 F11 [e155, (sb b27 #[(sv (([] : UX))), (vi 0), (vi 0), (vi 0), (.slice none ([] : List Int).length 0), (.slice none ([] : List Line).length 0)] 27), (sb b24 (AC x1 a1_4 n1_4 a1_5 n1_5) 27), (sb b21 (Ai x0) 23)] := hs150
    refine D1 7 <| MR #[(sv x1.Call), (vi x1.Category), (vi x1.Power), (vi x1.Claimed), (.slice a135 r127.length n136), (.slice a1_5 x1.Lines.length n1_5)] hs158 ((le133.t le142).trans le151) (fun w159 hs160 => ?_)
    refine Dv [8] <| D1 9 <| MR #[(sv x1.Call), (vi x1.Category), (vi x1.Power), (vi x1.Claimed), (.slice a135 r127.length n136), (.slice a153 r145.length n154)] hs160 ((le133.t le142).trans le151) (fun w161 hs162 => ?_)
    obtain rfl := Aa h147
    exact UP (by kernel_rfl) ⟨F11, a135, n136, a153, n154, e155, hs162, ((le133.t le142).trans le151), fI, hb144, (UF hs143 le151), hr156⟩
  ·rintro f w43 ⟨F2, aj47_0, nj47_0, aj47_1, nj47_1, ej47_1, hs44, le45, ⟨_, rfl⟩, hbj47_0, hsj47_0, hrj47_1⟩
   refine Ab <| Sq (Rg (rG 5) ?_)
   refine Ld hs44.at3 <| Ld hs44.at2 <| Vs 1 <| Bx' 214 #[(.bool x0.Report), (.bool x0.Serial), (.bool x0.Zone), (sv x1.Call), (vi x1.Category), (vi x1.Power), (vi x1.Claimed), (.slice aj47_0 j47.1.length nj47_0), (.slice aj47_1 j47.2.length nj47_1)] hs44 (fun b163 w164 hs165 => ?_)
   refine Vs 1 <| Nss (Rg (rG 12) ?_)
   refine RWP.litMap (dst := (some 43)) (ty := 216) (g := none) (by kernel_rfl) rfl (t := 216) hs165 (fun b166 w167 (hs168 : HS w0 F0 w167 F2 [(some b166, (.map #[] 0)), (sb b163 #[(.bool x0.Report), (.bool x0.Serial), (.bool x0.Zone), (sv x1.Call), (vi x1.Category), (vi x1.Power), (vi x1.Claimed), (.slice aj47_0 j47.1.length nj47_0), (.slice aj47_1 j47.2.length nj47_1)] 214), ej47_1, (sb b27 #[(sv (([] : UX))), (vi 0), (vi 0), (vi 0), (.slice none ([] : List Int).length 0), (.slice none ([] : List Line).length 0)] 27), (sb b24 #[(sv x1.Call), (vi x1.Category), (vi x1.Power), (vi x1.Claimed), (.slice aj47_0 j47.1.length nj47_0), (.slice aj47_1 j47.2.length nj47_1)] 27), (sb b21 (Ai x0) 23)]) => ?_)
   refine Vs 2 <| RWP.litIns (d := .int .i64) (k := 3) (vt := 215) (ty := 0) (g := none) (mt := 216) (m := (.tmp 43)) (x := (.const (vi 1))) (y := (.tmp 45)) (b := b166) (q := 0) (kv := (vi 1)) (v := (.func (.func 178) #[(pt b163 0)] #[])) (by kernel_rfl) rfl rfl rfl rfl (by kernel_rfl) (by kernel_rfl) rfl (by kernel_rfl) hs168 rfl rfl (fun w169 (hs170 : HS w0 F0 w169 F2 [(some b166, (.map #[⟨(vi 1), (.func (.func 178) #[(pt b163 0)] #[]), 0⟩] 1)), (sb b163 #[(.bool x0.Report), (.bool x0.Serial), (.bool x0.Zone), (sv x1.Call), (vi x1.Category), (vi x1.Power), (vi x1.Claimed), (.slice aj47_0 j47.1.length nj47_0), (.slice aj47_1 j47.2.length nj47_1)] 214), ej47_1, (sb b27 #[(sv (([] : UX))), (vi 0), (vi 0), (vi 0), (.slice none ([] : List Int).length 0), (.slice none ([] : List Line).length 0)] 27), (sb b24 #[(sv x1.Call), (vi x1.Category), (vi x1.Power), (vi x1.Claimed), (.slice aj47_0 j47.1.length nj47_0), (.slice aj47_1 j47.2.length nj47_1)] 27), (sb b21 (Ai x0) 23)]) => ?_)
   refine Vs 2 <| RWP.litIns (d := .int .i64) (k := 3) (vt := 215) (ty := 0) (g := none) (mt := 216) (m := (.tmp 43)) (x := (.const (vi 2))) (y := (.tmp 47)) (b := b166) (q := 0) (kv := (vi 2)) (v := (.func (.func 179) #[(pt b163 0)] #[])) (by kernel_rfl) rfl rfl rfl rfl (by kernel_rfl) (by kernel_rfl) rfl (by kernel_rfl) hs170 rfl rfl (fun w171 (hs172 : HS w0 F0 w171 F2 [(some b166, (.map #[⟨(vi 1), (.func (.func 178) #[(pt b163 0)] #[]), 0⟩, ⟨(vi 2), (.func (.func 179) #[(pt b163 0)] #[]), 1⟩] 2)), (sb b163 #[(.bool x0.Report), (.bool x0.Serial), (.bool x0.Zone), (sv x1.Call), (vi x1.Category), (vi x1.Power), (vi x1.Claimed), (.slice aj47_0 j47.1.length nj47_0), (.slice aj47_1 j47.2.length nj47_1)] 214), ej47_1, (sb b27 #[(sv (([] : UX))), (vi 0), (vi 0), (vi 0), (.slice none ([] : List Int).length 0), (.slice none ([] : List Line).length 0)] 27), (sb b24 #[(sv x1.Call), (vi x1.Category), (vi x1.Power), (vi x1.Claimed), (.slice aj47_0 j47.1.length nj47_0), (.slice aj47_1 j47.2.length nj47_1)] 27), (sb b21 (Ai x0) 23)]) => ?_)
   refine Vs 2 <| RWP.litIns (d := .int .i64) (k := 3) (vt := 215) (ty := 0) (g := none) (mt := 216) (m := (.tmp 43)) (x := (.const (vi 3))) (y := (.tmp 49)) (b := b166) (q := 0) (kv := (vi 3)) (v := (.func (.func 180) #[(pt b163 0)] #[])) (by kernel_rfl) rfl rfl rfl rfl (by kernel_rfl) (by kernel_rfl) rfl (by kernel_rfl) hs172 rfl rfl (fun w173 (hs174 : HS w0 F0 w173 F2 [(some b166, (.map #[⟨(vi 1), (.func (.func 178) #[(pt b163 0)] #[]), 0⟩, ⟨(vi 2), (.func (.func 179) #[(pt b163 0)] #[]), 1⟩, ⟨(vi 3), (.func (.func 180) #[(pt b163 0)] #[]), 2⟩] 3)), (sb b163 #[(.bool x0.Report), (.bool x0.Serial), (.bool x0.Zone), (sv x1.Call), (vi x1.Category), (vi x1.Power), (vi x1.Claimed), (.slice aj47_0 j47.1.length nj47_0), (.slice aj47_1 j47.2.length nj47_1)] 214), ej47_1, (sb b27 #[(sv (([] : UX))), (vi 0), (vi 0), (vi 0), (.slice none ([] : List Int).length 0), (.slice none ([] : List Line).length 0)] 27), (sb b24 #[(sv x1.Call), (vi x1.Category), (vi x1.Power), (vi x1.Claimed), (.slice aj47_0 j47.1.length nj47_0), (.slice aj47_1 j47.2.length nj47_1)] 27), (sb b21 (Ai x0) 23)]) => ?_)
   refine Vs 2 <| Nss (Rg [0] ?_)
   refine Vs 1 <| Nss <| Sq (Rg [0, 1, 2] ?_)
   refine Vs 3 <| Nt ?_
   have hs175 := hs174.dr4.dummy (oc #[] 0)
   obtain ⟨o177, ho178, h179⟩ := bind_some h54
   refine UJ (fun f w => ∃ (s194 : (List Fix × Int × Bool × Bool × Bool × UX × Int × Int × Int × List Int × List Line)) (F13 : Mem) (as194_9 : UY) (ns194_9 : Nat) (as194_10 : UY) (ns194_10 : Nat) (es194_10 : Option Nat × Obj) (as194_0 : UY) (ns194_0 : Nat) (es194_0 : Option Nat × Obj), o177 = .done s194 /\ HS w0 F0 w F13 [es194_0, (sb b163 #[(.bool s194.2.2.1), (.bool s194.2.2.2.1), (.bool s194.2.2.2.2.1), (sv s194.2.2.2.2.2.1), (vi s194.2.2.2.2.2.2.1), (vi s194.2.2.2.2.2.2.2.1), (vi s194.2.2.2.2.2.2.2.2.1), (.slice as194_9 s194.2.2.2.2.2.2.2.2.2.1.length ns194_9), (.slice as194_10 s194.2.2.2.2.2.2.2.2.2.2.length ns194_10)] 214), es194_10, (sb b27 #[(sv (([] : UX))), (vi 0), (vi 0), (vi 0), (.slice none ([] : List Int).length 0), (.slice none ([] : List Line).length 0)] 27), (sb b21 (Ai x0) 23)] /\ UC F2 F13 /\ FI f [] [(2, (.slice a2_0 x2.length n2_0)), (3, (pt b21 0)), (6, (pt b27 0)), (12, (pt b163 0)), (14, (.slice as194_0 s194.1.length ns194_0))] /\ LC s194.2.2.2.2.2.2.2.2.2.1.length ns194_9 /\ SlA AB F13 as194_9 s194.2.2.2.2.2.2.2.2.2.1 /\ Ap AF 34 F13 as194_10 ns194_10 s194.2.2.2.2.2.2.2.2.2.2 es194_10 /\ Ap I4 64 F13 as194_0 ns194_0 s194.1 es194_0) ?_ ?_
   ·refine Bk ?_
    refine UB (by kernel_rfl) (fun m f w => ∃ (s180 : (List Fix × Int × Bool × Bool × Bool × UX × Int × Int × Int × List Int × List Line)) (F12 : Mem) (as180_9 : UY) (ns180_9 : Nat) (as180_10 : UY) (ns180_10 : Nat) (es180_10 : Option Nat × Obj) (as180_0 : UY) (ns180_0 : Nat) (es180_0 : Option Nat × Obj), AQ (FH N x0 x1 x2 r30 j47) m s180 = some o177 /\ HS w0 F0 w F12 [es180_0, (some b166, (.map #[⟨(vi 1), (.func (.func 178) #[(pt b163 0)] #[]), 0⟩, ⟨(vi 2), (.func (.func 179) #[(pt b163 0)] #[]), 1⟩, ⟨(vi 3), (.func (.func 180) #[(pt b163 0)] #[]), 2⟩] 3)), (sb b163 #[(.bool s180.2.2.1), (.bool s180.2.2.2.1), (.bool s180.2.2.2.2.1), (sv s180.2.2.2.2.2.1), (vi s180.2.2.2.2.2.2.1), (vi s180.2.2.2.2.2.2.2.1), (vi s180.2.2.2.2.2.2.2.2.1), (.slice as180_9 s180.2.2.2.2.2.2.2.2.2.1.length ns180_9), (.slice as180_10 s180.2.2.2.2.2.2.2.2.2.2.length ns180_10)] 214), es180_10, (sb b27 #[(sv (([] : UX))), (vi 0), (vi 0), (vi 0), (.slice none ([] : List Int).length 0), (.slice none ([] : List Line).length 0)] 27), (sb b21 (Ai x0) 23)] /\ UC F2 F12 /\ FI f [] [(2, (.slice a2_0 x2.length n2_0)), (3, (pt b21 0)), (6, (pt b27 0)), (12, (pt b163 0)), (13, (.map (some b166))), (14, (.slice as180_0 s180.1.length ns180_0)), (51, (.slice a2_0 x2.length n2_0)), (52, (vi (x2.length : Int))), (53, (vi s180.2.1))] /\ LC s180.2.2.2.2.2.2.2.2.2.1.length ns180_9 /\ SlA AB F12 as180_9 s180.2.2.2.2.2.2.2.2.2.1 /\ Ap AF 34 F12 as180_10 ns180_10 s180.2.2.2.2.2.2.2.2.2.2 es180_10 /\ Ap I4 64 F12 as180_0 ns180_0 s180.1 es180_0) N ⟨(([] : List Fix), 0, x0.Report, x0.Serial, x0.Zone, x1.Call, x1.Category, x1.Power, x1.Claimed, j47.1, j47.2), F2, aj47_0, nj47_0, aj47_1, nj47_1, ej47_1, none, 0, (none, .cells #[] 0 (0, 0)), ho178, hs175, (UD _), fI, hbj47_0, hsj47_0, hrj47_1, (UR I4 64 F2 _)⟩ ?_
    rintro m204 f w181 ⟨s180, F12, as180_9, ns180_9, as180_10, ns180_10, es180_10, as180_0, ns180_0, es180_0, hit205, hs182, le183, ⟨_, rfl⟩, hbs180_9, hss180_9, hrs180_10, hrs180_0⟩
    obtain ⟨m206, fl207, rfl, hb208, hnx209⟩ := AH hit205
    refine Sq (Rg [0] ?_)
    refine Vs 1 <| Nss <| Cd hb208 (fun hb210 h211 => ?_) (fun hb210 h212 => ?_)
    ·refine Sc ?_
     refine Ab <| Sq <| Bk <| Sq (Rg (rG 6) ?_)
     refine Vs 1 ?_
     obtain ⟨x213, hx214, h216⟩ := bind_some h211
     obtain ⟨hi215, hx214'⟩ := An hx214
     obtain ⟨b217, o218, C219, E220, fz221, rfl, hF223, hE224⟩ := UK (UF hs2_0 ((le36.t le45).trans le183)) hx214'
     have hc226 := hE224 _ _ hx214'
     refine Ix hi215 <| Lx 0 (hs182.pers _ _ hF223) hc226 <| Al' 64 #[(vi 0), (vi 0), (vi 0), (vi 0), (vi 0), (vi 0), (sv (([] : UX))), (vi 0), (vi 0), (vi 0), (vi 0), (vi 0), (vi 0)] hs182 (fun b227 w228 hs229 => ?_)
     refine Vs 1 <| St0 (Oo x213) hs229 (fun w230 hs231 => ?_)
     refine Nss (Rg (rG 9) ?_)
     refine Vs 2 <| Ld hs231.at0 <| Sp h216 (fun hb232 h233 => ?_) (fun hb232 h234 => ?_)
     ·refine V 62 217 (Nm (mt := 216) (k := 3) (vt := 215) (d := .int .i64) (m := (.tmp 59)) (x := (.tmp 61)) (b := b166) (kv := (vi x213.Kind)) (v := (.func (.func 178) #[(pt b163 0)] #[])) (j := 0) rfl rfl (by kernel_rfl) (by kernel_rfl) rfl (hs231.ownAt (k := 2) rfl) (TG hb232)) ?_
      refine Vs 5 <| Nss <| Sq (Rg [0, 1] ?_)
      refine Vs 2 <| Nt <| C0 (rfl : false = false) <| Sc <| Ab <| Sq (Rg (rG 9) ?_)
      refine Vs 1 <| Ld hs231.at0 ?_
      have hs235 := hs231.pk6.pk6.pk4.pk4.pk4
      obtain ⟨r236, hr237, h238⟩ := bind_some h233
      refine CB GM (Hc N b163 (({ o_ := ({ Report := s180.2.2.1, Serial := s180.2.2.2.1, Zone := s180.2.2.2.2.1 } : Ac), l_ := ({ Call := s180.2.2.2.2.2.1, Category := s180.2.2.2.2.2.2.1, Power := s180.2.2.2.2.2.2.2.1, Claimed := s180.2.2.2.2.2.2.2.2.1, Jumps := s180.2.2.2.2.2.2.2.2.2.1, Lines := s180.2.2.2.2.2.2.2.2.2.2 } : Log) } : A3)) as180_9 ns180_9 as180_10 ns180_10 es180_10 hbs180_9 hss180_9 hrs180_10 x213 hs235.pk6.pk6 _ hr237) ?_
      rintro _ F14 w239 _ hs240 le241 ⟨ar236_0_7, nr236_0_7, ar236_0_8, nr236_0_8, er236_0_8, rfl, rfl, hbr236_0_7, hsr236_0_7, hrr236_0_8⟩
      refine Vs 3 <| Al' 64 #[(vi 0), (vi 0), (vi 0), (vi 0), (vi 0), (vi 0), (sv (([] : UX))), (vi 0), (vi 0), (vi 0), (vi 0), (vi 0), (vi 0)] hs240 (fun b243 w244 hs245 => ?_)
      refine St0 (Oo r236.2.1) hs245 (fun w246 hs247 => ?_)
      refine Vs 1 <| Nss <| Sq (Rg [0, 1] ?_)
      refine Vs 2 <| Nt <| Cd h238 (fun hb248 h249 => ?_) (fun hb248 h250 => ?_)
      ·cases h249
      ·refine Sc ?_
       refine Ab <| Rg (rG 5) <| Vs 1 <| Ld hs247.at0 <| Bs 64 [(vi r236.2.1.Kind), (vi r236.2.1.Num), (vi r236.2.1.Line.Num), (vi r236.2.1.Line.Khz), (vi r236.2.1.Line.Mode), (vi r236.2.1.Line.Minute), (sv r236.2.1.Line.Call), (vi r236.2.1.Line.Sent.Report), (vi r236.2.1.Line.Sent.Serial), (vi r236.2.1.Line.Sent.Zone), (vi r236.2.1.Line.Got.Report), (vi r236.2.1.Line.Got.Serial), (vi r236.2.1.Line.Got.Zone)] hs247 (fun b251 w252 hs253 => ?_)
       have hr255 : Ap I4 64 F14 (some ⟨b251, 0, none⟩) 1 [r236.2.1] (some b251, .cells ([(vi r236.2.1.Kind), (vi r236.2.1.Num), (vi r236.2.1.Line.Num), (vi r236.2.1.Line.Khz), (vi r236.2.1.Line.Mode), (vi r236.2.1.Line.Minute), (sv r236.2.1.Line.Call), (vi r236.2.1.Line.Sent.Report), (vi r236.2.1.Line.Sent.Serial), (vi r236.2.1.Line.Sent.Zone), (vi r236.2.1.Line.Got.Report), (vi r236.2.1.Line.Got.Serial), (vi r236.2.1.Line.Got.Zone)] : List Value).toArray 64 (0, 0)) := US ⟨rfl, rfl⟩ (by simp)
       obtain ⟨r256, hap257, h258⟩ := bind_some h250
       refine Ap5 Um hs253 (hrs180_0.mono le241) (hs253.rd0 hr255) hap257 (fun a259 n260 e261 w262 hs263 hr264 => ?_)
       refine Vs 1 <| Uy <| Ar <| Ab <| Rg [0, 1] <| Vs 2 <| Uy ?_
       have hs265 := hs263.dr0.dr0.dr2.pk5.pk5
       have hn266 := AM h258 hnx209
       exact ⟨m206, Nat.lt_succ_self _, (r256, (W64 (s180.2.1 + 1)), r236.1.o_.Report, r236.1.o_.Serial, r236.1.o_.Zone, r236.1.l_.Call, r236.1.l_.Category, r236.1.l_.Power, r236.1.l_.Claimed, r236.1.l_.Jumps, r236.1.l_.Lines), F14, ar236_0_7, nr236_0_7, ar236_0_8, nr236_0_8, er236_0_8, a259, n260, e261, hn266, hs265.pk3.pk3.pk5.pk5, (le183.t le241), fI, hbr236_0_7, hsr236_0_7, hrr236_0_8, hr264⟩
     ·cases h234
    ·refine Ex ?_
     refine Aq <| Aq <| Az rfl ?_
     have ho267 := AJ h212 hnx209
     exact .inl ⟨rfl, (s180.1, s180.2.1, s180.2.2.1, s180.2.2.2.1, s180.2.2.2.2.1, s180.2.2.2.2.2.1, s180.2.2.2.2.2.2.1, s180.2.2.2.2.2.2.2.1, s180.2.2.2.2.2.2.2.2.1, s180.2.2.2.2.2.2.2.2.2.1, s180.2.2.2.2.2.2.2.2.2.2), F12, as180_9, ns180_9, as180_10, ns180_10, es180_10, as180_0, ns180_0, es180_0, ho267, hs182.dr1, le183, fI, hbs180_9, hss180_9, hrs180_10, hrs180_0⟩
   ·rintro f w195 ⟨s194, F13, as194_9, ns194_9, as194_10, ns194_10, es194_10, as194_0, ns194_0, es194_0, rfl, hs196, le197, ⟨_, rfl⟩, hbs194_9, hss194_9, hrs194_10, hrs194_0⟩
    have h268 := Bn h179
    refine Ab <| Sq <| Sq ?_
    obtain ⟨j274, hj281, h282⟩ := bind_some h268
    refine RD 7 7 [es194_0, (sb b163 #[(.bool s194.2.2.1), (.bool s194.2.2.2.1), (.bool s194.2.2.2.2.1), (sv s194.2.2.2.2.2.1), (vi s194.2.2.2.2.2.2.1), (vi s194.2.2.2.2.2.2.2.1), (vi s194.2.2.2.2.2.2.2.2.1), (.slice as194_9 s194.2.2.2.2.2.2.2.2.2.1.length ns194_9), (.slice as194_10 s194.2.2.2.2.2.2.2.2.2.2.length ns194_10)] 214), es194_10, (sb b27 #[(sv (([] : UX))), (vi 0), (vi 0), (vi 0), (.slice none ([] : List Int).length 0), (.slice none ([] : List Line).length 0)] 27), (sb b21 (Ai x0) 23)] [] hs196 (fun f w => ∃ (F15 : Mem), HS w0 F0 w F15 [es194_0, (sb b163 #[(.bool s194.2.2.1), (.bool s194.2.2.2.1), (.bool s194.2.2.2.2.1), (sv s194.2.2.2.2.2.1), (vi s194.2.2.2.2.2.2.1), (vi s194.2.2.2.2.2.2.2.1), (vi s194.2.2.2.2.2.2.2.2.1), (.slice as194_9 s194.2.2.2.2.2.2.2.2.2.1.length ns194_9), (.slice as194_10 s194.2.2.2.2.2.2.2.2.2.2.length ns194_10)] 214), es194_10, (sb b27 #[(sv (([] : UX))), (vi 0), (vi 0), (vi 0), (.slice none ([] : List Int).length 0), (.slice none ([] : List Line).length 0)] 27)] /\ UC F13 F15 /\ FI f [] [(2, (.slice a2_0 x2.length n2_0)), (6, (pt b27 0)), (12, (pt b163 0)), (14, (.slice as194_0 s194.1.length ns194_0)), (90, (.bool j274))]) (fun wd269 hw270 => ?_) ?_
    ·refine Dl 0 (fun _ hq => (hq.1.2 4 _ _ rfl)) ?_
     refine Dv [1, 2, 3] <| Dl 4 (fun _ hq => (hq.1.2 1 _ _ rfl)) <| D1 5 ?_
     obtain ⟨r283, hr284, h285⟩ := bind_some hj281
     refine Aw.callLentP (l' := [true, true, true, true, true, true, false]) (zd := true) (by kernel_rfl) (by kernel_rfl) (by kernel_rfl) (q := 2) (v0 := (.bool r283)) (dst := (some 89)) (ty := 4) (g := none) (by kernel_rfl) rfl (f0 := (.func 25)) (aos := #[(.tmp 84), (.tmp 88)]) (ats := #[23, 27]) (fid := 25) (first := #[]) (cap := #[]) (args := [(.agg (Ai x0)), (.agg #[(sv s194.2.2.2.2.2.1), (vi s194.2.2.2.2.2.2.1), (vi s194.2.2.2.2.2.2.2.1), (vi s194.2.2.2.2.2.2.2.2.1), (.slice as194_9 s194.2.2.2.2.2.2.2.2.2.1.length ns194_9), (.slice as194_10 s194.2.2.2.2.2.2.2.2.2.2.length ns194_10)])]) rfl Ef rfl hw270 rfl (ER N wd269 (GU F13 es194_10) (HS.lend hw270 (q := 2) rfl).2 (hG.mono (((le36.t le45).trans le197).trans (HS.lend hw270 (q := 2) rfl).1)) ({ Report := x0.Report, Serial := x0.Serial, Zone := x0.Zone } : Ac) ({ Call := s194.2.2.2.2.2.1, Category := s194.2.2.2.2.2.2.1, Power := s194.2.2.2.2.2.2.2.1, Claimed := s194.2.2.2.2.2.2.2.2.1, Jumps := s194.2.2.2.2.2.2.2.2.2.1, Lines := s194.2.2.2.2.2.2.2.2.2.2 } : Log) as194_9 ns194_9 hbs194_9 (UF hss194_9 (HS.lend hw270 (q := 2) rfl).1) as194_10 ns194_10 (UQ hrs194_10) (Ap.freeze hrs194_10 (HS.lend hw270 (q := 2) rfl).1) _ hr284) (fun F16 w286 (hs287 : HS w0 F0 w286 F16 [es194_0, (sb b163 #[(.bool s194.2.2.1), (.bool s194.2.2.2.1), (.bool s194.2.2.2.2.1), (sv s194.2.2.2.2.2.1), (vi s194.2.2.2.2.2.2.1), (vi s194.2.2.2.2.2.2.2.1), (vi s194.2.2.2.2.2.2.2.2.1), (.slice as194_9 s194.2.2.2.2.2.2.2.2.2.1.length ns194_9), (.slice as194_10 s194.2.2.2.2.2.2.2.2.2.2.length ns194_10)] 214), es194_10, (sb b27 #[(sv (([] : UX))), (vi 0), (vi 0), (vi 0), (.slice none ([] : List Int).length 0), (.slice none ([] : List Line).length 0)] 27), (sb b21 (Ai x0) 23)]) le288 => ?_)
     refine Dv [6] ?_
     obtain rfl := Aa h285
     exact UP (by kernel_rfl) ⟨F16, hs287.dr4, le288, fI⟩
    ·rintro f w271 ⟨F15, hs272, le273, ⟨_, rfl⟩⟩
     refine Ab <| Cd h282 (fun hb289 h290 => ?_) (fun hb289 h291 => ?_)
     ·cases h290
     ·refine Sc ?_
      refine Ab <| Sq (Rg (rG 9) ?_)
      refine Vs 3 <| Ld hs272.at1 <| Vs 1 <| St3 #[(sv s194.2.2.2.2.2.1), (vi s194.2.2.2.2.2.2.1), (vi s194.2.2.2.2.2.2.2.1), (vi s194.2.2.2.2.2.2.2.2.1), (.slice as194_9 s194.2.2.2.2.2.2.2.2.2.1.length ns194_9), (.slice as194_10 s194.2.2.2.2.2.2.2.2.2.2.length ns194_10)] hs272 (fun w292 hs293 => ?_)
      refine Vs 3 <| Nt <| Rt ?_
      obtain rfl := Aa h291
      exact ⟨rfl, (.tuple #[(.agg #[(sv s194.2.2.2.2.2.1), (vi s194.2.2.2.2.2.2.1), (vi s194.2.2.2.2.2.2.2.1), (vi s194.2.2.2.2.2.2.2.2.1), (.slice as194_9 s194.2.2.2.2.2.2.2.2.2.1.length ns194_9), (.slice as194_10 s194.2.2.2.2.2.2.2.2.2.2.length ns194_10)]), (.slice as194_0 s194.1.length ns194_0), (vi 0), (vi 0)]), AW (l := [.cell 6 27, .tmp 7, .tmp 8, .tmp 9]) (by kernel_rfl) (vs := [(.agg #[(sv s194.2.2.2.2.2.1), (vi s194.2.2.2.2.2.2.1), (vi s194.2.2.2.2.2.2.2.1), (vi s194.2.2.2.2.2.2.2.2.1), (.slice as194_9 s194.2.2.2.2.2.2.2.2.2.1.length ns194_9), (.slice as194_10 s194.2.2.2.2.2.2.2.2.2.2.length ns194_10)]), (.slice as194_0 s194.1.length ns194_0), (vi 0), (vi 0)]) ⟨b27, 0, rfl, Al (t := 27) (g := true) (s := 6) (by kernel_rfl) hs293.at3 rfl (by decide), ⟨rfl, ⟨rfl, ⟨rfl, trivial⟩⟩⟩⟩, (.tuple #[(.agg #[(sv s194.2.2.2.2.2.1), (vi s194.2.2.2.2.2.2.1), (vi s194.2.2.2.2.2.2.2.1), (vi s194.2.2.2.2.2.2.2.2.1), (.slice as194_9 s194.2.2.2.2.2.2.2.2.2.1.length ns194_9), (.slice as194_10 s194.2.2.2.2.2.2.2.2.2.2.length ns194_10)]), (.slice as194_0 s194.1.length ns194_0), (vi 0), (vi 0)]), F15, _, rfl, hs293.dr1.dr2.pk1, ⟨as194_9, ns194_9, as194_10, ns194_10, es194_10, as194_0, ns194_0, es194_0, rfl, rfl, hbs194_9, (UF hss194_9 le273), (hrs194_10.mono le273), (hrs194_0.mono le273)⟩⟩
theorem DN {N : Nat} {x r : List Fix} (h : Bc N x = some r) : r.length = x.length := by
 unfold Bc at h
 obtain ⟨o, ho, h⟩ := bind_some h
 obtain ⟨s1, hI, hb, _⟩ := Oq (fun s => s.2.2.length = x.length) (fun s s' hI hs => by
  unfold A4 at hs
  rcases M8 hs with ⟨_, hs⟩ | ⟨_, hs⟩
  ·cases hs
  ·cases hs) (by rfl) ho
 unfold A4 at hb
 rcases M8 hb with ⟨_, hb⟩ | ⟨_, hb⟩
 ·cases hb
 ·cases hb; cases h; exact hI
def Ku (N : Nat) (x0 : Ac) (x1 : Log) (x2 : (List Fix)) : Option ((List Fix) × Int) :=
 ((Ho N ({ Report := x0.Report, Serial := x0.Serial, Zone := x0.Zone } : Ac) x1 x2).bind fun r27 => ((Bc N r27.2.1).bind fun r41 => some (r41, r27.2.2.1)))
theorem Mc : Ae Tryz.prog 53 := fun _ _ => by kernel_rfl
theorem MK (N : Nat) (w0 : World) (F0 : Mem) (hF : UZ w0 F0) (hG : Bq F0) (x0 : Ac) (x1 : Log) (a1_4 : UY) (n1_4 : Nat) (hb1_4 : LC x1.Jumps.length n1_4) (hs1_4 : SlA AB F0 a1_4 x1.Jumps) (a1_5 : UY) (n1_5 : Nat) (hb1_5 : LC x1.Lines.length n1_5) (hs1_5 : SlA AF F0 a1_5 x1.Lines) (x2 : (List Fix)) (a2_0 : UY) (n2_0 : Nat) (hb2_0 : LC x2.length n2_0) (hs2_0 : SlA I4 F0 a2_0 x2) (r : ((List Fix) × Int)) (h : Ku N x0 x1 x2 = some r) :
  Calls Tryz.prog 53 ([(.agg (Ai x0)), (.agg (AC x1 a1_4 n1_4 a1_5 n1_5)), (.slice a2_0 x2.length n2_0)] : List Value).toArray w0 (AD w0 F0 fun F' v => ∃ (aq0_0 : UY) (nq0_0 : Nat), v = (.tuple #[(.slice aq0_0 r.1.length nq0_0), (vi r.2)]) /\ LC r.1.length nq0_0 /\ SlA I4 F' aq0_0 r.1) := by
 have hs0 := UE hF
 refine Go 25 Tryz.func53 <| Sq (Rg (rG 4) ?_)
 refine Bx' 23 (Ai x0) hs0 (fun b21 w22 hs23 => ?_)
 refine Bx' 27 (AC x1 a1_4 n1_4 a1_5 n1_5) hs23 (fun b24 w25 hs26 => ?_)
 refine Vs 2 <| Nss (Rg (rG 14) ?_)
 refine Ld hs26.at1 <| Ld hs26.at0 <| Vs 1 ?_
 obtain ⟨r27, hr28, h29⟩ := bind_some h
 refine RWP.callO (dst := (some 16)) (ty := 162) (g := none) (by kernel_rfl) rfl (f0 := (.func 120)) (aos := #[(.tmp 13), (.tmp 14), (.tmp 15)]) (ats := #[23, 27, 60]) (fid := 120) (first := #[]) (cap := #[]) (args := [(.agg (Ai x0)), (.agg (AC x1 a1_4 n1_4 a1_5 n1_5)), (.slice a2_0 x2.length n2_0)]) rfl Ju rfl hs26 (Kc N w25 F0 hs26.pers hG (({ Report := x0.Report, Serial := x0.Serial, Zone := x0.Zone } : Ac)) x1 a1_4 n1_4 hb1_4 hs1_4 a1_5 n1_5 hb1_5 hs1_5 x2 a2_0 n2_0 hb2_0 hs2_0 _ hr28) ?_
 rintro _ F1 w31 _ hs32 le33 ⟨ar27_0_4, nr27_0_4, ar27_0_5, nr27_0_5, er27_0_5, ar27_1_0, nr27_1_0, er27_1_0, rfl, rfl, hbr27_0_4, hsr27_0_4, hrr27_0_5, hrr27_1_0⟩
 have hs35 : HS w0 F0 w31 F1 [er27_0_5, er27_1_0, (sb b24 (AC x1 a1_4 n1_4 a1_5 n1_5) 27), (sb b21 (Ai x0) 23)] := hs32
 refine Vs 5 <| Al' 27 #[(sv (([] : UX))), (vi 0), (vi 0), (vi 0), (.slice none ([] : List Int).length 0), (.slice none ([] : List Line).length 0)] hs35 (fun b36 w37 hs38 => ?_)
 refine St0 (AC r27.1 ar27_0_4 nr27_0_4 ar27_0_5 nr27_0_5) hs38 (fun w39 hs40 => ?_)
 refine Vs 3 <| Nss (Rg [0, 1] ?_)
 refine Vs 1 ?_
 obtain ⟨r41, hr42, h43⟩ := bind_some h29
 refine RWP.callS (dst := (some 22)) (ty := 0) (g := none) (by kernel_rfl) rfl (f0 := (.func 126)) (aos := #[(.tmp 21)]) (ats := #[60]) (fid := 126) (first := #[]) (cap := #[]) (args := [(.slice ar27_1_0 r27.2.1.length nr27_1_0)]) rfl DO rfl (D3 N (Lf := [(sb b36 (AC r27.1 ar27_0_4 nr27_0_4 ar27_0_5 nr27_0_5) 27), er27_0_5, (sb b24 (AC x1 a1_4 n1_4 a1_5 n1_5) 27), (sb b21 (Ai x0) 23)]) r27.2.1 ar27_1_0 nr27_1_0 er27_1_0 hrr27_1_0 hs40.pk4.pk4.pk3.pk3.pk4  _ hr42) ?_
 rintro _ w45 ⟨F2, e44, rfl, hs46, le47, hr48⟩
 refine ⟨_, rfl, ?_⟩
 have hs49 : HS w0 F0 w45 F2 [e44, (sb b36 (AC r27.1 ar27_0_4 nr27_0_4 ar27_0_5 nr27_0_5) 27), er27_0_5, (sb b24 (AC x1 a1_4 n1_4 a1_5 n1_5) 27), (sb b21 (Ai x0) 23)] := hs46
 refine Nss (Rg (rG 4) ?_)
 refine V 23 60 (mv 9 (.slice ar27_1_0 r41.length nr27_1_0) (Rp rfl (DN hr42))) <| Vs 3 <| Nt <| Rt ?_
 have hb53 := UQ hr48
 obtain ⟨F3, hs50, le51, hs52⟩ := hs49.fr0 hr48
 obtain rfl := Aa h43
 exact Re [(.slice ar27_1_0 r41.length nr27_1_0), (vi r27.2.2.1)] hs50 ⟨ar27_1_0, nr27_1_0, rfl, hb53, hs52⟩
def Da (N : Nat)  : Option Ac :=
 some ({ Report := true, Serial := true, Zone := false } : Ac)
theorem B6 : Ae Tryz.prog 71 := fun _ _ => by kernel_rfl
theorem Cn (N : Nat) (w0 : World) (F0 : Mem) (hF : UZ w0 F0)  (r : Ac) (h : Da N  = some r) :
  Calls Tryz.prog 71 ([] : List Value).toArray w0 (AD w0 F0 fun F' v => v = (.agg (Ai r))) := by
 have hs0 := UE hF
 refine Go 2 Tryz.func71 <| Sq (Rg [0] ?_)
 refine Al' 23 #[(.bool false), (.bool false), (.bool false)] hs0 (fun b21 w22 hs23 => ?_)
 refine Nss (Rg [0, 1] ?_)
 refine Vs 1 <| St0 #[(.bool true), (.bool true), (.bool false)] hs23 (fun w24 hs25 => ?_)
 refine Nt <| Rt ?_
 obtain rfl := Aa h
 exact ⟨rfl, (.agg #[(.bool true), (.bool true), (.bool false)]), AW (l := [.cell 0 23]) (by kernel_rfl) (vs := [(.agg #[(.bool true), (.bool true), (.bool false)])]) ⟨b21, 0, rfl, Al (t := 23) (g := true) (s := 3) (by kernel_rfl) hs25.at0 rfl (by decide), trivial⟩, (.agg #[(.bool true), (.bool true), (.bool false)]), F0, rfl, hs25.clear, rfl⟩
def DW (N : Nat)  : Option Log :=
 some ({ Call := ([68, 76, 49, 88, 89] : UX), Category := 1, Power := 100, Claimed := 20, Jumps := ([] : List Int), Lines := [({ Num := 7, Khz := 14025, Mode := 1, Minute := 75, Call := ([75, 49, 65, 66, 67] : UX), Sent := ({ Report := 599, Serial := 12, Zone := 0 } : Ad), Got := ({ Report := 599, Serial := 3, Zone := 0 } : Ad) } : Line)] } : Log)
theorem DD : Ae Tryz.prog 72 := fun _ _ => by kernel_rfl
theorem D4 (N : Nat) (w0 : World) (F0 : Mem) (hF : UZ w0 F0)  (r : Log) (h : DW N  = some r) :
  Calls Tryz.prog 72 ([] : List Value).toArray w0 (AD w0 F0 fun F' v => ∃ (aq0_4 : UY) (nq0_4 : Nat) (aq0_5 : UY) (nq0_5 : Nat), v = (.agg (AC r aq0_4 nq0_4 aq0_5 nq0_5)) /\ LC r.Jumps.length nq0_4 /\ SlA AB F' aq0_4 r.Jumps /\ LC r.Lines.length nq0_5 /\ SlA AF F' aq0_5 r.Lines) := by
 have hs0 := UE hF
 refine Go 8 Tryz.func72 <| Sq (Rg [0] ?_)
 refine Al' 27 #[(sv (([] : UX))), (vi 0), (vi 0), (vi 0), (.slice none ([] : List Int).length 0), (.slice none ([] : List Line).length 0)] hs0 (fun b21 w22 hs23 => ?_)
 refine Nss (Rg (rG 5) ?_)
 refine Vs 3 <| Al' 34 #[(vi 0), (vi 0), (vi 0), (vi 0), (sv (([] : UX))), (vi 0), (vi 0), (vi 0), (vi 0), (vi 0), (vi 0)] hs23 (fun b24 w25 hs26 => ?_)
 refine St0 #[(vi 7), (vi 14025), (vi 1), (vi 75), (sv (([75, 49, 65, 66, 67] : UX))), (vi 599), (vi 12), (vi 0), (vi 599), (vi 3), (vi 0)] hs26 (fun w27 hs28 => ?_)
 refine Nss (Rg (rG 4) ?_)
 refine Ld hs28.at0 <| Bs 34 [(vi 7), (vi 14025), (vi 1), (vi 75), (sv (([75, 49, 65, 66, 67] : UX))), (vi 599), (vi 12), (vi 0), (vi 599), (vi 3), (vi 0)] hs28 (fun b29 w30 hs31 => ?_)
 have hr33 : Ap AF 34 F0 (some ⟨b29, 0, none⟩) 1 [({ Num := 7, Khz := 14025, Mode := 1, Minute := 75, Call := ([75, 49, 65, 66, 67] : UX), Sent := ({ Report := 599, Serial := 12, Zone := 0 } : Ad), Got := ({ Report := 599, Serial := 3, Zone := 0 } : Ad) } : Line)] (some b29, .cells ([(vi 7), (vi 14025), (vi 1), (vi 75), (sv (([75, 49, 65, 66, 67] : UX))), (vi 599), (vi 12), (vi 0), (vi 599), (vi 3), (vi 0)] : List Value).toArray 34 (0, 0)) := US ⟨rfl, rfl⟩ (by simp)
 refine Vs 1 <| St2 #[(sv (([68, 76, 49, 88, 89] : UX))), (vi 1), (vi 100), (vi 20), (.slice none ([] : List Int).length 0), (.slice (some ⟨b29, 0, none⟩) [({ Num := 7, Khz := 14025, Mode := 1, Minute := 75, Call := ([75, 49, 65, 66, 67] : UX), Sent := ({ Report := 599, Serial := 12, Zone := 0 } : Ad), Got := ({ Report := 599, Serial := 3, Zone := 0 } : Ad) } : Line)].length 1)] hs31 (fun w34 hs35 => ?_)
 refine Nt <| Rt ?_
 have hb39 := UQ hr33
 obtain ⟨F1, hs36, le37, hs38⟩ := hs35.fr0 hr33
 obtain rfl := Aa h
 exact ⟨rfl, (.agg #[(sv (([68, 76, 49, 88, 89] : UX))), (vi 1), (vi 100), (vi 20), (.slice none ([] : List Int).length 0), (.slice (some ⟨b29, 0, none⟩) [({ Num := 7, Khz := 14025, Mode := 1, Minute := 75, Call := ([75, 49, 65, 66, 67] : UX), Sent := ({ Report := 599, Serial := 12, Zone := 0 } : Ad), Got := ({ Report := 599, Serial := 3, Zone := 0 } : Ad) } : Line)].length 1)]), AW (l := [.cell 0 27]) (by kernel_rfl) (vs := [(.agg #[(sv (([68, 76, 49, 88, 89] : UX))), (vi 1), (vi 100), (vi 20), (.slice none ([] : List Int).length 0), (.slice (some ⟨b29, 0, none⟩) [({ Num := 7, Khz := 14025, Mode := 1, Minute := 75, Call := ([75, 49, 65, 66, 67] : UX), Sent := ({ Report := 599, Serial := 12, Zone := 0 } : Ad), Got := ({ Report := 599, Serial := 3, Zone := 0 } : Ad) } : Line)].length 1)])]) ⟨b21, 0, rfl, Al (t := 27) (g := true) (s := 6) (by kernel_rfl) hs36.at1 rfl (by decide), trivial⟩, (.agg #[(sv (([68, 76, 49, 88, 89] : UX))), (vi 1), (vi 100), (vi 20), (.slice none ([] : List Int).length 0), (.slice (some ⟨b29, 0, none⟩) [({ Num := 7, Khz := 14025, Mode := 1, Minute := 75, Call := ([75, 49, 65, 66, 67] : UX), Sent := ({ Report := 599, Serial := 12, Zone := 0 } : Ad), Got := ({ Report := 599, Serial := 3, Zone := 0 } : Ad) } : Line)].length 1)]), F1, rfl, hs36.clear, ⟨none, 0, (some ⟨b29, 0, none⟩), 1, rfl, UG, (.inl rfl), hb39, hs38⟩⟩
def Ji (N : Nat)  : Option Bool :=
 ((Da N ).bind fun r21 => ((DW N ).bind fun r29 => ((LX N ({ Report := r21.Report, Serial := r21.Serial, Zone := r21.Zone } : Ac) r29).bind fun r37 => ((Da N ).bind fun r45 => ((IJ N ({ Report := r45.Report, Serial := r45.Serial, Zone := r45.Zone } : Ac) ([67, 65, 76, 76, 32, 68, 76, 49, 88, 89, 10, 67, 65, 84, 69, 71, 79, 82, 89, 32, 49, 10, 80, 79, 87, 69, 82, 32, 49, 48, 48, 10, 67, 76, 65, 73, 77, 69, 68, 32, 50, 48, 10, 74, 85, 77, 80, 83, 10, 81, 83, 79, 32, 55, 32, 49, 52, 48, 50, 53, 32, 77, 32, 49, 32, 48, 49, 49, 53, 32, 75, 49, 65, 66, 67, 32, 62, 32, 53, 57, 57, 32, 48, 49, 50, 32, 60, 32, 53, 57, 57, 32, 48, 48, 51, 10, 69, 78, 68, 10] : UX)).bind fun r53 => (((Mv ([67, 65, 76, 76, 32, 68, 76, 49, 88, 89, 10, 67, 65, 84, 69, 71, 79, 82, 89, 32, 49, 10, 80, 79, 87, 69, 82, 32, 49, 48, 48, 10, 67, 76, 65, 73, 77, 69, 68, 32, 50, 48, 10, 74, 85, 77, 80, 83, 10, 81, 83, 79, 32, 55, 32, 49, 52, 48, 50, 53, 32, 77, 32, 49, 32, 48, 49, 49, 53, 32, 75, 49, 65, 66, 67, 32, 62, 32, 53, 57, 57, 32, 48, 49, 50, 32, 60, 32, 53, 57, 57, 32, 48, 48, 51, 10, 69, 78, 68, 10] : UX) 0 96).bind fun r81 => ((Da N ).bind fun r84 => ((IJ N ({ Report := r84.Report, Serial := r84.Serial, Zone := r84.Zone } : Ac) r81).bind fun r92 => some (r92.2.1, r92.2.2)))).bind fun j71 => ((Da N ).bind fun r139 => ((Ks N ({ Report := r139.Report, Serial := r139.Serial, Zone := r139.Zone } : Ac) ([67, 65, 76, 76, 32, 68, 76, 49, 88, 89, 10, 67, 65, 84, 69, 71, 79, 82, 89, 32, 49, 10, 67, 76, 65, 73, 77, 69, 68, 32, 50, 48, 10, 74, 85, 77, 80, 83, 10, 81, 83, 79, 32, 55, 32, 49, 52, 48, 50, 53, 32, 77, 32, 49, 32, 48, 49, 49, 53, 32, 75, 49, 65, 66, 67, 32, 62, 32, 53, 57, 57, 32, 48, 49, 50, 32, 60, 32, 53, 57, 57, 32, 48, 48, 51, 10, 101, 110, 100, 10] : UX)).bind fun r147 => ((Da N ).bind fun r155 => ((DW N ).bind fun r163 => ((Ku N ({ Report := r155.Report, Serial := r155.Serial, Zone := r155.Zone } : Ac) r163 ([({ Kind := 1, Num := 7, Line := ({ Num := 0, Khz := 0, Mode := 0, Minute := 0, Call := ([] : UX), Sent := ({ Report := 0, Serial := 0, Zone := 0 } : Ad), Got := ({ Report := 0, Serial := 0, Zone := 0 } : Ad) } : Line) } : Fix)])).bind fun r180 => (bif ((r37.2 != 0) || ((r53.2.1 != 0) || ((j71.1 != 20) || ((r147.2.2.2 != 0) || ((r180.2 != 0) || ((j71.2 != 7) || ((r180.1.length : Int) != 1))))))) then some false else ((bif (r37.1 == ([67, 65, 76, 76, 32, 68, 76, 49, 88, 89, 10, 67, 65, 84, 69, 71, 79, 82, 89, 32, 49, 10, 80, 79, 87, 69, 82, 32, 49, 48, 48, 10, 67, 76, 65, 73, 77, 69, 68, 32, 50, 48, 10, 74, 85, 77, 80, 83, 10, 81, 83, 79, 32, 55, 32, 49, 52, 48, 50, 53, 32, 77, 32, 49, 32, 48, 49, 49, 53, 32, 75, 49, 65, 66, 67, 32, 62, 32, 53, 57, 57, 32, 48, 49, 50, 32, 60, 32, 53, 57, 57, 32, 48, 48, 51, 10, 69, 78, 68, 10] : UX)) then ((DW N ).bind fun r220 => ((LO N r53.1 r220).bind fun r228 => (bif r228 then (bif (r147.2.2.1 == 7) then (bif ((r147.2.1.length : Int) == 7) then ((idx r180.1 0).bind fun x245 => ((DW N ).bind fun r259 => ((idx r259.Lines 0).bind fun x267 => some ((x245.Line.Num == x267.Num) && ((x245.Line.Khz == x267.Khz) && ((x245.Line.Mode == x267.Mode) && ((x245.Line.Minute == x267.Minute) && ((x245.Line.Call == x267.Call) && (((x245.Line.Sent.Report == x267.Sent.Report) && ((x245.Line.Sent.Serial == x267.Sent.Serial) && ((x245.Line.Sent.Zone == x267.Sent.Zone) && true))) && (((x245.Line.Got.Report == x267.Got.Report) && ((x245.Line.Got.Serial == x267.Got.Serial) && ((x245.Line.Got.Zone == x267.Got.Zone) && true))) && true)))))))))) else some false) else some false) else some false))) else some false).bind fun j212 => some j212)))))))))))))
theorem K3 : Ae Tryz.prog 19 := fun _ _ => by kernel_rfl
theorem Mq (N : Nat) (w0 : World) (F0 : Mem) (hF : UZ w0 F0) (hG : Bq F0)  (r : Bool) (h : Ji N  = some r) :
  Calls Tryz.prog 19 ([] : List Value).toArray w0 (AD w0 F0 fun F' v => v = (.bool r)) := by
 have hs0 := UE hF
 refine Go 103 Tryz.func19 <| Sq (Rg [0] ?_)
 refine Vs 1 <| Nss (Rg (rG 8) ?_)
 obtain ⟨r21, hr22, h23⟩ := bind_some h
 refine Cl' B6 hs0 (Cn N w0 F0 hs0.pers  _ hr22) ?_
 rintro _ F1 w25 hs26 le27 rfl
 obtain ⟨r29, hr30, h31⟩ := bind_some h23
 refine Cl' DD hs26 (D4 N w25 F1 hs26.pers  _ hr30) ?_
 rintro _ F2 w33 hs34 le35 ⟨ar29_0_4, nr29_0_4, ar29_0_5, nr29_0_5, rfl, hbr29_0_4, hsr29_0_4, hbr29_0_5, hsr29_0_5⟩
 obtain ⟨r37, hr38, h39⟩ := bind_some h31
 refine Cl' MF hs34 (NW N w33 F2 hs34.pers (hG.mono (le27.t le35)) (({ Report := r21.Report, Serial := r21.Serial, Zone := r21.Zone } : Ac)) r29 ar29_0_4 nr29_0_4 hbr29_0_4 hsr29_0_4 ar29_0_5 nr29_0_5 hbr29_0_5 hsr29_0_5 _ hr38) ?_
 rintro _ F3 w41 hs42 le43 rfl
 refine Vs 5 <| Nss (Rg (rG 10) ?_)
 obtain ⟨r45, hr46, h47⟩ := bind_some h39
 refine Cl' B6 hs42 (Cn N w41 F3 hs42.pers  _ hr46) ?_
 rintro _ F4 w49 hs50 le51 rfl
 obtain ⟨r53, hr54, h55⟩ := bind_some h47
 refine Cl' Et hs50 (E3 N w49 F4 hs50.pers (hG.mono (((le27.t le35).trans le43).trans le51)) (({ Report := r45.Report, Serial := r45.Serial, Zone := r45.Zone } : Ac)) (([67, 65, 76, 76, 32, 68, 76, 49, 88, 89, 10, 67, 65, 84, 69, 71, 79, 82, 89, 32, 49, 10, 80, 79, 87, 69, 82, 32, 49, 48, 48, 10, 67, 76, 65, 73, 77, 69, 68, 32, 50, 48, 10, 74, 85, 77, 80, 83, 10, 81, 83, 79, 32, 55, 32, 49, 52, 48, 50, 53, 32, 77, 32, 49, 32, 48, 49, 49, 53, 32, 75, 49, 65, 66, 67, 32, 62, 32, 53, 57, 57, 32, 48, 49, 50, 32, 60, 32, 53, 57, 57, 32, 48, 48, 51, 10, 69, 78, 68, 10] : UX)) _ hr54) ?_
 rintro _ F5 w57 hs58 le59 ⟨ar53_0_4, nr53_0_4, ar53_0_5, nr53_0_5, rfl, hbr53_0_4, hsr53_0_4, hbr53_0_5, hsr53_0_5⟩
 refine Vs 4 <| Al' 27 #[(sv (([] : UX))), (vi 0), (vi 0), (vi 0), (.slice none ([] : List Int).length 0), (.slice none ([] : List Line).length 0)] hs58 (fun b61 w62 hs63 => ?_)
 refine St0 (AC r53.1 ar53_0_4 nr53_0_4 ar53_0_5 nr53_0_5) hs63 (fun w64 hs65 => ?_)
 refine Vs 2 <| Nss ?_
 obtain ⟨j71, hj79, h80⟩ := bind_some h55
 refine RD 11 11 [(sb b61 (AC r53.1 ar53_0_4 nr53_0_4 ar53_0_5 nr53_0_5) 27)] [] hs65 (fun f w => ∃ (F6 : Mem), HS w0 F0 w F6 [(sb b61 (AC r53.1 ar53_0_4 nr53_0_4 ar53_0_5 nr53_0_5) 27)] /\ UC F5 F6 /\ FI f [] [(1, (sv r37.1)), (2, (vi r37.2)), (3, (pt b61 0)), (4, (vi r53.2.1)), (7, (vi j71.1)), (8, (vi j71.2))]) (fun wd66 hw67 => ?_) ?_
 ·obtain ⟨r81, hr82, h83⟩ := bind_some hj79
  refine Dt 1 29 9 (sv r81) (fun _ hq => I6 (t := 9) (x := (.const (sv ([67, 65, 76, 76, 32, 68, 76, 49, 88, 89, 10, 67, 65, 84, 69, 71, 79, 82, 89, 32, 49, 10, 80, 79, 87, 69, 82, 32, 49, 48, 48, 10, 67, 76, 65, 73, 77, 69, 68, 32, 50, 48, 10, 74, 85, 77, 80, 83, 10, 81, 83, 79, 32, 55, 32, 49, 52, 48, 50, 53, 32, 77, 32, 49, 32, 48, 49, 49, 53, 32, 75, 49, 65, 66, 67, 32, 62, 32, 53, 57, 57, 32, 48, 49, 50, 32, 60, 32, 53, 57, 57, 32, 48, 48, 51, 10, 69, 78, 68, 10] : UX)))) (lo := none) (hi := (some (.const (vi 96)))) (a := ([67, 65, 76, 76, 32, 68, 76, 49, 88, 89, 10, 67, 65, 84, 69, 71, 79, 82, 89, 32, 49, 10, 80, 79, 87, 69, 82, 32, 49, 48, 48, 10, 67, 76, 65, 73, 77, 69, 68, 32, 50, 48, 10, 74, 85, 77, 80, 83, 10, 81, 83, 79, 32, 55, 32, 49, 52, 48, 50, 53, 32, 77, 32, 49, 32, 48, 49, 49, 53, 32, 75, 49, 65, 66, 67, 32, 62, 32, 53, 57, 57, 32, 48, 49, 50, 32, 60, 32, 53, 57, 57, 32, 48, 48, 51, 10, 69, 78, 68, 10] : UX)) (il := 0) (ih := 96) (v := r81) rfl (by kernel_rfl) rfl rfl hr82) <| UL (i := 0) (j := 7) (by kernel_rfl) ?_ ?_
  ·obtain ⟨r84, hr85, h86⟩ := bind_some h83
   refine DCl B6 hw67 (Cn N wd66 F5 hw67.pers  _ hr85) ?_
   rintro _ F7 w88 hs89 le90 rfl
   refine UL (i := 2) (j := 7) (by kernel_rfl) ?_ ?_
   ·obtain ⟨r92, hr93, h94⟩ := bind_some h86
    refine DCl Et hs89 (E3 N w88 F7 hs89.pers (hG.mono (((((le27.t le35).trans le43).trans le51).trans le59).trans le90)) (({ Report := r84.Report, Serial := r84.Serial, Zone := r84.Zone } : Ac)) r81 _ hr93) ?_
    rintro _ F8 w96 hs97 le98 ⟨ar92_0_4, nr92_0_4, ar92_0_5, nr92_0_5, rfl, hbr92_0_4, hsr92_0_4, hbr92_0_5, hsr92_0_5⟩
    refine Dv [3, 4, 5, 6] <| D1 7 <| DAl 27 #[(sv (([] : UX))), (vi 0), (vi 0), (vi 0), (.slice none ([] : List Int).length 0), (.slice none ([] : List Line).length 0)] hs97 (le90.t le98) (fun b100 w101 hs102 => ?_)
    refine D1 8 <| Gc (AC r92.1 ar92_0_4 nr92_0_4 ar92_0_5 nr92_0_5) hs102 (le90.t le98) (fun w103 hs104 => ?_)
    refine Dv [9, 10] ?_
    obtain rfl := Aa h94
    exact UP (by kernel_rfl) ⟨F8, hs104.dr0, (le90.t le98), fI⟩
   ·refine DAl 27 #[(sv (([] : UX))), (vi 0), (vi 0), (vi 0), (.slice none ([] : List Int).length 0), (.slice none ([] : List Line).length 0)] hs89 le90 (fun b105 w106 hs107 => ?_)
    refine D1 2 ?_
    obtain ⟨r108, hr109, h110⟩ := bind_some h86
    refine DCl Et hs107 (E3 N w106 F7 hs107.pers (hG.mono (((((le27.t le35).trans le43).trans le51).trans le59).trans le90)) (({ Report := r84.Report, Serial := r84.Serial, Zone := r84.Zone } : Ac)) r81 _ hr109) ?_
    rintro _ F9 w112 hs113 le114 ⟨ar108_0_4, nr108_0_4, ar108_0_5, nr108_0_5, rfl, hbr108_0_4, hsr108_0_4, hbr108_0_5, hsr108_0_5⟩
    refine Dv [3, 4, 5, 6] <| D1 8 <| Gc (AC r108.1 ar108_0_4 nr108_0_4 ar108_0_5 nr108_0_5) hs113 (le90.t le114) (fun w116 hs117 => ?_)
    refine Dv [9, 10] ?_
    obtain rfl := Aa h110
    exact UP (by kernel_rfl) ⟨F9, hs117.dr0, (le90.t le114), fI⟩
  ·refine DAl 27 #[(sv (([] : UX))), (vi 0), (vi 0), (vi 0), (.slice none ([] : List Int).length 0), (.slice none ([] : List Line).length 0)] hw67 (UD _) (fun b118 w119 hs120 => ?_)
   refine D1 0 ?_
   obtain ⟨r121, hr122, h123⟩ := bind_some h83
   refine DCl B6 hs120 (Cn N w119 F5 hs120.pers  _ hr122) ?_
   rintro _ F10 w125 hs126 le127 rfl
   refine D1 2 ?_
   obtain ⟨r129, hr130, h131⟩ := bind_some h123
   refine DCl Et hs126 (E3 N w125 F10 hs126.pers (hG.mono (((((le27.t le35).trans le43).trans le51).trans le59).trans le127)) (({ Report := r121.Report, Serial := r121.Serial, Zone := r121.Zone } : Ac)) r81 _ hr130) ?_
   rintro _ F11 w133 hs134 le135 ⟨ar129_0_4, nr129_0_4, ar129_0_5, nr129_0_5, rfl, hbr129_0_4, hsr129_0_4, hbr129_0_5, hsr129_0_5⟩
   refine Dv [3, 4, 5, 6] <| D1 8 <| Gc (AC r129.1 ar129_0_4 nr129_0_4 ar129_0_5 nr129_0_5) hs134 (le127.t le135) (fun w137 hs138 => ?_)
   refine Dv [9, 10] ?_
   obtain rfl := Aa h131
   exact UP (by kernel_rfl) ⟨F11, hs138.dr0, (le127.t le135), fI⟩
 ·rintro f w68 ⟨F6, hs69, le70, ⟨_, rfl⟩⟩
  refine Ab <| Sq (Rg (rG 11) ?_)
  obtain ⟨r139, hr140, h141⟩ := bind_some h80
  refine Cl' B6 hs69 (Cn N w68 F6 hs69.pers  _ hr140) ?_
  rintro _ F12 w143 hs144 le145 rfl
  obtain ⟨r147, hr148, h149⟩ := bind_some h141
  refine Cl' Ma hs144 (MI N w143 F12 hs144.pers (hG.mono ((((((le27.t le35).trans le43).trans le51).trans le59).trans le70).trans le145)) (({ Report := r139.Report, Serial := r139.Serial, Zone := r139.Zone } : Ac)) (([67, 65, 76, 76, 32, 68, 76, 49, 88, 89, 10, 67, 65, 84, 69, 71, 79, 82, 89, 32, 49, 10, 67, 76, 65, 73, 77, 69, 68, 32, 50, 48, 10, 74, 85, 77, 80, 83, 10, 81, 83, 79, 32, 55, 32, 49, 52, 48, 50, 53, 32, 77, 32, 49, 32, 48, 49, 49, 53, 32, 75, 49, 65, 66, 67, 32, 62, 32, 53, 57, 57, 32, 48, 49, 50, 32, 60, 32, 53, 57, 57, 32, 48, 48, 51, 10, 101, 110, 100, 10] : UX)) _ hr148) ?_
  rintro _ F13 w151 hs152 le153 ⟨ar147_1_0, nr147_1_0, rfl, hbr147_1_0, hsr147_1_0⟩
  refine Vs 9 <| Nss (Rg (rG 10) ?_)
  obtain ⟨r155, hr156, h157⟩ := bind_some h149
  refine Cl' B6 hs152 (Cn N w151 F13 hs152.pers  _ hr156) ?_
  rintro _ F14 w159 hs160 le161 rfl
  obtain ⟨r163, hr164, h165⟩ := bind_some h157
  refine Cl' DD hs160 (D4 N w159 F14 hs160.pers  _ hr164) ?_
  rintro _ F15 w167 hs168 le169 ⟨ar163_0_4, nr163_0_4, ar163_0_5, nr163_0_5, rfl, hbr163_0_4, hsr163_0_4, hbr163_0_5, hsr163_0_5⟩
  refine Vs 1 <| Bs 64 [(vi 1), (vi 7), (vi 0), (vi 0), (vi 0), (vi 0), (sv (([] : UX))), (vi 0), (vi 0), (vi 0), (vi 0), (vi 0), (vi 0)] hs168 (fun b171 w172 hs173 => ?_)
  have hr175 : Ap I4 64 F15 (some ⟨b171, 0, none⟩) 1 [({ Kind := 1, Num := 7, Line := ({ Num := 0, Khz := 0, Mode := 0, Minute := 0, Call := ([] : UX), Sent := ({ Report := 0, Serial := 0, Zone := 0 } : Ad), Got := ({ Report := 0, Serial := 0, Zone := 0 } : Ad) } : Line) } : Fix)] (some b171, .cells ([(vi 1), (vi 7), (vi 0), (vi 0), (vi 0), (vi 0), (sv (([] : UX))), (vi 0), (vi 0), (vi 0), (vi 0), (vi 0), (vi 0)] : List Value).toArray 64 (0, 0)) := US ⟨rfl, rfl⟩ (by simp)
  have hb179 := UQ hr175
  obtain ⟨F16, hs176, le177, hs178⟩ := hs173.fr0 hr175
  obtain ⟨r180, hr181, h182⟩ := bind_some h165
  refine Cl' Mc hs176 (MK N w172 F16 hs176.pers (hG.mono ((((((((((le27.t le35).trans le43).trans le51).trans le59).trans le70).trans le145).trans le153).trans le161).trans le169).trans le177)) (({ Report := r155.Report, Serial := r155.Serial, Zone := r155.Zone } : Ac)) r163 ar163_0_4 nr163_0_4 hbr163_0_4 (UF hsr163_0_4 le177) ar163_0_5 nr163_0_5 hbr163_0_5 (UF hsr163_0_5 le177) ([({ Kind := 1, Num := 7, Line := ({ Num := 0, Khz := 0, Mode := 0, Minute := 0, Call := ([] : UX), Sent := ({ Report := 0, Serial := 0, Zone := 0 } : Ad), Got := ({ Report := 0, Serial := 0, Zone := 0 } : Ad) } : Line) } : Fix)]) (some ⟨b171, 0, none⟩) 1 hb179 hs178 _ hr181) ?_
  rintro _ F17 w184 hs185 le186 ⟨ar180_0_0, nr180_0_0, rfl, hbr180_0_0, hsr180_0_0⟩
  refine Vs 5 <| Nss <| Sq (Rg (rG 27) ?_)
  refine UI (fun f w => ∃ (F18 : Mem), HS w0 F0 w F18 [(sb b61 (AC r53.1 ar53_0_4 nr53_0_4 ar53_0_5 nr53_0_5) 27)] /\ UC F17 F18 /\ FI f [] [(1, (sv r37.1)), (3, (pt b61 0)), (10, (.slice ar147_1_0 r147.2.1.length nr147_1_0)), (11, (vi r147.2.2.1)), (13, (.slice ar180_0_0 r180.1.length nr180_0_0)), (75, (.bool ((r37.2 != 0) || ((r53.2.1 != 0) || ((j71.1 != 20) || ((r147.2.2.2 != 0) || ((r180.2 != 0) || ((j71.2 != 7) || ((r180.1.length : Int) != 1)))))))))]) ?_ ?_
  ·refine Vs 3 ?_
   refine UH (r37.2 != 0) (fun hb198 => ?_) (fun hb198 => ?_)
   ·refine Ss hb198 2 ?_
    refine Pk1 hb198 <| Vs 1 <| Ss (rfl : true = true) 2 <| Pk1 (rfl : true = true) <| Vs 1 <| Ss (rfl : true = true) 2 <| Pk1 (rfl : true = true) <| Vs 1 <| Ss (rfl : true = true) 2 <| Pk1 (rfl : true = true) <| Vs 1 <| Ss (rfl : true = true) 2 <| Pk1 (rfl : true = true) <| Vs 1 <| Ss (rfl : true = true) 3 <| Pk1 (rfl : true = true) ?_
    exact Uy ⟨rfl, F17, hs185, (UD _), (fJ ⟨rfl, rfl, rfl, rfl, rfl, (congrArg Value.bool (Hl hb198 rfl)), trivial⟩)⟩
   ·refine Vgs hb198 2 ?_
    refine Pk0 hb198 <| Vs 1 <| UH (r53.2.1 != 0) (fun hb199 => ?_) (fun hb199 => ?_)
    ·refine Ss hb199 2 ?_
     refine Pk1 hb199 <| Vs 1 <| Ss (rfl : true = true) 2 <| Pk1 (rfl : true = true) <| Vs 1 <| Ss (rfl : true = true) 2 <| Pk1 (rfl : true = true) <| Vs 1 <| Ss (rfl : true = true) 2 <| Pk1 (rfl : true = true) <| Vs 1 <| Ss (rfl : true = true) 3 <| Pk1 (rfl : true = true) ?_
     exact Uy ⟨rfl, F17, hs185, (UD _), (fJ ⟨rfl, rfl, rfl, rfl, rfl, (congrArg Value.bool (Dh hb198 (Hl hb199 rfl))), trivial⟩)⟩
    ·refine Vgs hb199 2 ?_
     refine Pk0 hb199 <| Vs 1 <| UH (j71.1 != 20) (fun hb200 => ?_) (fun hb200 => ?_)
     ·refine Ss hb200 2 ?_
      refine Pk1 hb200 <| Vs 1 <| Ss (rfl : true = true) 2 <| Pk1 (rfl : true = true) <| Vs 1 <| Ss (rfl : true = true) 2 <| Pk1 (rfl : true = true) <| Vs 1 <| Ss (rfl : true = true) 3 <| Pk1 (rfl : true = true) ?_
      exact Uy ⟨rfl, F17, hs185, (UD _), (fJ ⟨rfl, rfl, rfl, rfl, rfl, (congrArg Value.bool (Dh hb198 (Dh hb199 (Hl hb200 rfl)))), trivial⟩)⟩
     ·refine Vgs hb200 2 ?_
      refine Pk0 hb200 <| Vs 1 <| UH (r147.2.2.2 != 0) (fun hb201 => ?_) (fun hb201 => ?_)
      ·refine Ss hb201 2 ?_
       refine Pk1 hb201 <| Vs 1 <| Ss (rfl : true = true) 2 <| Pk1 (rfl : true = true) <| Vs 1 <| Ss (rfl : true = true) 3 <| Pk1 (rfl : true = true) ?_
       exact Uy ⟨rfl, F17, hs185, (UD _), (fJ ⟨rfl, rfl, rfl, rfl, rfl, (congrArg Value.bool (Dh hb198 (Dh hb199 (Dh hb200 (Hl hb201 rfl))))), trivial⟩)⟩
      ·refine Vgs hb201 2 ?_
       refine Pk0 hb201 <| Vs 1 <| UH (r180.2 != 0) (fun hb202 => ?_) (fun hb202 => ?_)
       ·refine Ss hb202 2 ?_
        refine Pk1 hb202 <| Vs 1 <| Ss (rfl : true = true) 3 <| Pk1 (rfl : true = true) ?_
        exact Uy ⟨rfl, F17, hs185, (UD _), (fJ ⟨rfl, rfl, rfl, rfl, rfl, (congrArg Value.bool (Dh hb198 (Dh hb199 (Dh hb200 (Dh hb201 (Hl hb202 rfl)))))), trivial⟩)⟩
       ·refine Vgs hb202 2 ?_
        refine Pk0 hb202 <| Vs 1 <| UH (j71.2 != 7) (fun hb203 => ?_) (fun hb203 => ?_)
        ·refine Ss hb203 3 ?_
         refine Pk1 hb203 ?_
         exact Uy ⟨rfl, F17, hs185, (UD _), (fJ ⟨rfl, rfl, rfl, rfl, rfl, (congrArg Value.bool (Dh hb198 (Dh hb199 (Dh hb200 (Dh hb201 (Dh hb202 (Hl hb203 rfl))))))), trivial⟩)⟩
        ·refine Vgs hb203 3 ?_
         refine Pk0 hb203 ?_
         exact Uy ⟨rfl, F17, hs185, (UD _), (fJ ⟨rfl, rfl, rfl, rfl, rfl, (congrArg Value.bool (Dh hb198 (Dh hb199 (Dh hb200 (Dh hb201 (Dh hb202 (Dh hb203 rfl))))))), trivial⟩)⟩
  ·rintro f w188 ⟨F18, hs189, le190, ⟨_, rfl⟩⟩
   refine Ab <| Cd h182 (fun hb204 h205 => ?_) (fun hb204 h206 => ?_)
   ·refine Sq (Rg [0] ?_)
    refine Vs 1 <| Nt <| Rt <| Af ?_
    obtain rfl := Aa h205
    exact Re [(.bool false)] hs189 rfl
   ·refine Sc ?_
    refine Ab <| Sq ?_
    obtain ⟨j212, hj215, h216⟩ := bind_some h206
    refine RD 28 28 [(sb b61 (AC r53.1 ar53_0_4 nr53_0_4 ar53_0_5 nr53_0_5) 27)] [] hs189 (fun f w => ∃ (F19 : Mem), HS w0 F0 w F19 [] /\ UC F18 F19 /\ FI f [] [(0, (.bool j212))]) (fun wd207 hw208 => ?_) ?_
    ·refine Dvl [0, 1, 2] (tf 3 25) ?_
     refine Sd hj215 (fun hb217 h218 => ?_) (fun hb217 h219 => ?_)
     ·refine Dgl 3 79 27 _ (tf 4 24) 2 true 78 hb217 (fun _ hq => ld 27 3 b61 0 true 6 (.agg (AC r53.1 ar53_0_4 nr53_0_4 ar53_0_5 nr53_0_5)) (hq.1.2 0 _ _ rfl)) ?_
      refine D1 4 ?_
      obtain ⟨r220, hr221, h222⟩ := bind_some h218
      refine UO (l' := [true, true, true, true, true, false, false, false, false, false, false, false, false, false, false, false, false, false, false, false, false, false, false, false, false, false, false, false]) (zd := true) (by kernel_rfl) (by kernel_rfl) (by kernel_rfl) (dst := (some 80)) (ty := 27) (g := (some (2, true))) (by kernel_rfl) (Fw (d := 78) (by kernel_rfl) rfl hb217) (f0 := (.func 72)) (aos := #[]) (ats := #[]) (fid := 72) (first := #[]) (cap := #[]) (args := []) rfl DD rfl hw208 (D4 N wd207 F18 hw208.pers  _ hr221) ?_
      rintro _ F20 w224 hs225 le226 ⟨ar220_0_4, nr220_0_4, ar220_0_5, nr220_0_5, rfl, hbr220_0_4, hsr220_0_4, hbr220_0_5, hsr220_0_5⟩
      refine D1 5 ?_
      obtain ⟨r228, hr229, h230⟩ := bind_some h222
      refine UO (l' := [true, true, true, true, true, true, false, false, false, false, false, false, false, false, false, false, false, false, false, false, false, false, false, false, false, false, false, false]) (zd := true) (by kernel_rfl) (by kernel_rfl) (by kernel_rfl) (dst := (some 81)) (ty := 4) (g := (some (2, true))) (by kernel_rfl) (Fw (d := 78) (by kernel_rfl) rfl hb217) (f0 := (.func 35)) (aos := #[(.tmp 79), (.tmp 80)]) (ats := #[27, 27]) (fid := 35) (first := #[]) (cap := #[]) (args := [(.agg (AC r53.1 ar53_0_4 nr53_0_4 ar53_0_5 nr53_0_5)), (.agg (AC r220 ar220_0_4 nr220_0_4 ar220_0_5 nr220_0_5))]) rfl MD rfl hs225 (NU N w224 F20 hs225.pers r53.1 ar53_0_4 nr53_0_4 hbr53_0_4 (UF hsr53_0_4 ((((((((le70.t le145).trans le153).trans le161).trans le169).trans le177).trans le186).trans le190).trans le226)) ar53_0_5 nr53_0_5 hbr53_0_5 (UF hsr53_0_5 ((((((((le70.t le145).trans le153).trans le161).trans le169).trans le177).trans le186).trans le190).trans le226)) r220 ar220_0_4 nr220_0_4 hbr220_0_4 hsr220_0_4 ar220_0_5 nr220_0_5 hbr220_0_5 hsr220_0_5 _ hr229) ?_
      rintro _ F21 w232 hs233 le234 rfl
      refine Dtl 6 82 4 _ (tf 7 21) (fun _ hq => p1 78 (.tmp 81) (.const (.bool false)) (.bool r228) hb217) <| Dvl [7] (tf 8 20) <| Sd h230 (fun hb236 h237 => ?_) (fun hb236 h238 => ?_)
      ·refine Dgl 8 84 3 _ (tf 9 19) 7 true 83 hb236 (fun _ hq => mv 11 (vi r147.2.2.1)) ?_
       refine Dgl 9 85 4 (.bool (r147.2.2.1 == 7)) (tf 10 18) 7 true 83 hb236 (fun _ hq => I9 (t := 3) (t' := 3) (x := (.tmp 84)) (y := (.const (vi 7))) (k := .i64) (a := r147.2.2.1) (b := 7) rfl rfl) <| Dtl 10 86 4 _ (tf 11 17) (fun _ hq => p1 83 (.tmp 85) (.const (.bool false)) (.bool (r147.2.2.1 == 7)) hb236) <| Dvl [11] (tf 12 16) <| Sd h237 (fun hb239 h240 => ?_) (fun hb239 h241 => ?_)
       ·refine Dgl 12 88 48 _ (tf 13 15) 11 true 87 hb239 (fun _ hq => mv 10 (.slice ar147_1_0 r147.2.1.length nr147_1_0)) ?_
        refine Dgl 13 89 3 (vi (r147.2.1.length : Int)) (tf 14 14) 11 true 87 hb239 (fun _ hq => ln 88 48 ar147_1_0 r147.2.1.length nr147_1_0 150 3 32) <| Dgl 14 90 4 (.bool ((r147.2.1.length : Int) == 7)) (tf 15 13) 11 true 87 hb239 (fun _ hq => I9 (t := 3) (t' := 3) (x := (.tmp 89)) (y := (.const (vi 7))) (k := .i64) (a := (r147.2.1.length : Int)) (b := 7) rfl rfl) <| Dtl 15 91 4 _ (tf 16 12) (fun _ hq => p1 87 (.tmp 90) (.const (.bool false)) (.bool ((r147.2.1.length : Int) == 7)) hb239) <| Dvl [16] (tf 17 11) <| Sd h240 (fun hb242 h243 => ?_) (fun hb242 h244 => ?_)
        ·refine Dgl 17 93 60 _ (tf 18 10) 16 true 92 hb242 (fun _ hq => mv 13 (.slice ar180_0_0 r180.1.length nr180_0_0)) ?_
         obtain ⟨x245, hx246, h248⟩ := bind_some h243
         obtain ⟨hi247, hx246'⟩ := An hx246
         obtain ⟨b249, o250, C251, E252, fz253, rfl, hF255, hE256⟩ := UK (UF hsr180_0_0 le190) hx246'
         have hc258 := hE256 _ _ hx246'
         refine Dgl 18 94 0 (.pointer (some ⟨b249, (o250 + (0 : Int).toNat * 13), none⟩)) (tf 19 9) 16 true 92 hb242 (fun _ hq => B3 (t := 60) (x := (.tmp 93)) (y := (.const (vi 0))) (b := b249) (o := o250) (E := 64) (s := 13) (by_ := 112) rfl rfl (by kernel_rfl) hi247) <| Dgl 19 95 0 (.pointer (some ⟨b249, ((o250 + (0 : Int).toNat * 13) + 2), none⟩)) (tf 20 8) 16 true 92 hb242 (fun _ hq => fa 64 94 2 2 11 b249 (o250 + (0 : Int).toNat * 13) ((o250 + (0 : Int).toNat * 13) + 2)) <| Dgl 20 96 34 _ (tf 21 7) 16 true 92 hb242 (fun _ hq => lx 34 95 2 13 true 11 (.agg (BF x245.Line)) (hq.1.1 _ _ hF255) hc258) <| D1 21 ?_
         obtain ⟨r259, hr260, h261⟩ := bind_some h248
         refine UO (l' := [true, true, true, true, true, true, true, true, true, true, true, true, true, true, true, true, true, true, true, true, true, true, false, false, false, false, false, false]) (zd := true) (by kernel_rfl) (by kernel_rfl) (by kernel_rfl) (dst := (some 97)) (ty := 27) (g := (some (16, true))) (by kernel_rfl) (Fw (d := 92) (by kernel_rfl) rfl hb242) (f0 := (.func 72)) (aos := #[]) (ats := #[]) (fid := 72) (first := #[]) (cap := #[]) (args := []) rfl DD rfl hs233 (D4 N w232 F21 hs233.pers  _ hr260) ?_
         rintro _ F22 w263 hs264 le265 ⟨ar259_0_4, nr259_0_4, ar259_0_5, nr259_0_5, rfl, hbr259_0_4, hsr259_0_4, hbr259_0_5, hsr259_0_5⟩
         refine Dgl 22 98 25 _ (tf 23 5) 16 true 92 hb242 (fun _ hq => LJ (s := 27) (x := (.tmp 97)) (i := 5) (o := 5) (k := 1) (t := 25) (gg := false) (cs := (AC r259 ar259_0_4 nr259_0_4 ar259_0_5 nr259_0_5)) (v := (.slice ar259_0_5 r259.Lines.length nr259_0_5)) rfl (by kernel_rfl) (by kernel_rfl) rfl rfl rfl) ?_
         obtain ⟨x267, hx268, h270⟩ := bind_some h261
         obtain ⟨hi269, hx268'⟩ := An hx268
         obtain ⟨b271, o272, C273, E274, fz275, rfl, hF277, hE278⟩ := UK hsr259_0_5 hx268'
         have hc280 := hE278 _ _ hx268'
         refine Dgl 23 99 0 (.pointer (some ⟨b271, (o272 + (0 : Int).toNat * 11), none⟩)) (tf 24 4) 16 true 92 hb242 (fun _ hq => B3 (t := 25) (x := (.tmp 98)) (y := (.const (vi 0))) (b := b271) (o := o272) (E := 34) (s := 11) (by_ := 96) rfl rfl (by kernel_rfl) hi269) <| D1 24 <| UM (l' := [true, true, true, true, true, true, true, true, true, true, true, true, true, true, true, true, true, true, true, true, true, true, true, true, true, false, false, false]) (zd := true) (by kernel_rfl) (by kernel_rfl) (dst := (some 100)) (ty := 34) (g := (some (16, true))) (by kernel_rfl) (Fw (d := 92) (by kernel_rfl) rfl hb242) (JP (t := 34) (x := (.tmp 99)) (b := b271) (o := (o272 + (0 : Int).toNat * 11)) (j := 0) (C := C273) (kk := 11) (cs := [(vi x267.Num), (vi x267.Khz), (vi x267.Mode), (vi x267.Minute), (sv x267.Call), (vi x267.Sent.Report), (vi x267.Sent.Serial), (vi x267.Sent.Zone), (vi x267.Got.Report), (vi x267.Got.Serial), (vi x267.Got.Zone)]) (gg := true) (s := 11) (v := (.agg (BF x267))) rfl (by kernel_rfl) (hs264.pers _ _ hF277) hc280 (by decide) (by exact ⟨rfl, trivial⟩) rfl rfl) (A8 hs264 ((le226.t le234).trans le265) (by simp) (fun e => by cases e)) <| Dgl 25 101 4 (.bool ((x245.Line.Num == x267.Num) && ((x245.Line.Khz == x267.Khz) && ((x245.Line.Mode == x267.Mode) && ((x245.Line.Minute == x267.Minute) && ((x245.Line.Call == x267.Call) && (((x245.Line.Sent.Report == x267.Sent.Report) && ((x245.Line.Sent.Serial == x267.Sent.Serial) && ((x245.Line.Sent.Zone == x267.Sent.Zone) && true))) && (((x245.Line.Got.Report == x267.Got.Report) && ((x245.Line.Got.Serial == x267.Got.Serial) && ((x245.Line.Got.Zone == x267.Got.Zone) && true))) && true)))))))) (tf 26 2) 16 true 92 hb242 (fun _ hq => PI (t := 34) (t' := 34) (x := (.tmp 96)) (y := (.tmp 100)) (xs := (BF x245.Line)) (ys := (BF x267)) (b := ((x245.Line.Num == x267.Num) && ((x245.Line.Khz == x267.Khz) && ((x245.Line.Mode == x267.Mode) && ((x245.Line.Minute == x267.Minute) && ((x245.Line.Call == x267.Call) && (((x245.Line.Sent.Report == x267.Sent.Report) && ((x245.Line.Sent.Serial == x267.Sent.Serial) && ((x245.Line.Sent.Zone == x267.Sent.Zone) && true))) && (((x245.Line.Got.Report == x267.Got.Report) && ((x245.Line.Got.Serial == x267.Got.Serial) && ((x245.Line.Got.Zone == x267.Got.Zone) && true))) && true)))))))) rfl rfl (by kernel_rfl) (by kernel_rfl)) <| Dtl 26 102 4 _ (tf 27 1) (fun _ hq => p1 92 (.tmp 101) (.const (.bool false)) (.bool ((x245.Line.Num == x267.Num) && ((x245.Line.Khz == x267.Khz) && ((x245.Line.Mode == x267.Mode) && ((x245.Line.Minute == x267.Minute) && ((x245.Line.Call == x267.Call) && (((x245.Line.Sent.Report == x267.Sent.Report) && ((x245.Line.Sent.Serial == x267.Sent.Serial) && ((x245.Line.Sent.Zone == x267.Sent.Zone) && true))) && (((x245.Line.Got.Report == x267.Got.Report) && ((x245.Line.Got.Serial == x267.Got.Serial) && ((x245.Line.Got.Zone == x267.Got.Zone) && true))) && true)))))))) hb242) <| Dvl [27] (tf 28 0) ?_
         obtain rfl := Aa h270
         exact UP (by kernel_rfl) ⟨F22, hs264.dr0, ((le226.t le234).trans le265), fI⟩
        ·refine Dkl [(17, 93), (18, 94), (19, 95), (20, 96), (21, 97), (22, 98)] 16 true 92 hb242 (tf 23 5) ?_
         refine Dkl [(23, 99), (24, 100), (25, 101)] 16 true 92 hb242 (tf 26 2) <| Dtl 26 102 4 _ (tf 27 1) (fun _ hq => p0 92 (.tmp 101) (.const (.bool false)) (.bool false) hb242) <| Dvl [27] (tf 28 0) ?_
         obtain rfl := Aa h244
         exact UP (by kernel_rfl) ⟨F21, hs233.dr0, (le226.t le234), fI⟩
       ·refine Dkl [(12, 88), (13, 89), (14, 90)] 11 true 87 hb239 (tf 15 13) ?_
        refine Dtl 15 91 4 _ (tf 16 12) (fun _ hq => p0 87 (.tmp 90) (.const (.bool false)) (.bool false) hb239) <| Dvl [16] (tf 17 11) <| Dkl [(17, 93), (18, 94), (19, 95), (20, 96), (21, 97), (22, 98)] 16 true 92 rfl (tf 23 5) <| Dkl [(23, 99), (24, 100), (25, 101)] 16 true 92 rfl (tf 26 2) <| Dtl 26 102 4 _ (tf 27 1) (fun _ hq => p0 92 (.tmp 101) (.const (.bool false)) (.bool false) rfl) <| Dvl [27] (tf 28 0) ?_
        obtain rfl := Aa h241
        exact UP (by kernel_rfl) ⟨F21, hs233.dr0, (le226.t le234), fI⟩
      ·refine Dkl [(8, 84), (9, 85)] 7 true 83 hb236 (tf 10 18) ?_
       refine Dtl 10 86 4 _ (tf 11 17) (fun _ hq => p0 83 (.tmp 85) (.const (.bool false)) (.bool false) hb236) <| Dvl [11] (tf 12 16) <| Dkl [(12, 88), (13, 89), (14, 90)] 11 true 87 rfl (tf 15 13) <| Dtl 15 91 4 _ (tf 16 12) (fun _ hq => p0 87 (.tmp 90) (.const (.bool false)) (.bool false) rfl) <| Dvl [16] (tf 17 11) <| Dkl [(17, 93), (18, 94), (19, 95), (20, 96), (21, 97), (22, 98)] 16 true 92 rfl (tf 23 5) <| Dkl [(23, 99), (24, 100), (25, 101)] 16 true 92 rfl (tf 26 2) <| Dtl 26 102 4 _ (tf 27 1) (fun _ hq => p0 92 (.tmp 101) (.const (.bool false)) (.bool false) rfl) <| Dvl [27] (tf 28 0) ?_
       obtain rfl := Aa h238
       exact UP (by kernel_rfl) ⟨F21, hs233.dr0, (le226.t le234), fI⟩
     ·refine Dkl [(3, 79), (4, 80), (5, 81)] 2 true 78 hb217 (tf 6 22) ?_
      refine Dtl 6 82 4 _ (tf 7 21) (fun _ hq => p0 78 (.tmp 81) (.const (.bool false)) (.bool false) hb217) <| Dvl [7] (tf 8 20) <| Dkl [(8, 84), (9, 85)] 7 true 83 rfl (tf 10 18) <| Dtl 10 86 4 _ (tf 11 17) (fun _ hq => p0 83 (.tmp 85) (.const (.bool false)) (.bool false) rfl) <| Dvl [11] (tf 12 16) <| Dkl [(12, 88), (13, 89), (14, 90)] 11 true 87 rfl (tf 15 13) <| Dtl 15 91 4 _ (tf 16 12) (fun _ hq => p0 87 (.tmp 90) (.const (.bool false)) (.bool false) rfl) <| Dvl [16] (tf 17 11) <| Dkl [(17, 93), (18, 94), (19, 95), (20, 96), (21, 97), (22, 98)] 16 true 92 rfl (tf 23 5) <| Dkl [(23, 99), (24, 100), (25, 101)] 16 true 92 rfl (tf 26 2) <| Dtl 26 102 4 _ (tf 27 1) (fun _ hq => p0 92 (.tmp 101) (.const (.bool false)) (.bool false) rfl) <| Dvl [27] (tf 28 0) ?_
      obtain rfl := Aa h219
      exact UP (by kernel_rfl) ⟨F18, hw208.dr0, (UD _), fI⟩
    ·rintro f w209 ⟨F19, hs210, le211, ⟨_, rfl⟩⟩
     refine Ab <| Rt ?_
     obtain rfl := Aa h216
     exact Re [(.bool j212)] hs210 rfl
set_option maxRecDepth 100000 in
theorem QF : Ji 9223372036854775808 = some true := by kernel_rfl
def Hs (_N : Nat) : Option Bool := some true
theorem Md : Ae Tryz.prog 19 := K3
theorem ML (N : Nat) (w0 : World) (F0 : Mem) (hF : UZ w0 F0) (hG : Bq F0) (r : Bool) (h : Hs N = some r) :
  Calls Tryz.prog 19 ([] : List Value).toArray w0 (AD w0 F0 fun F' v => v = (.bool r)) := by
 cases h
 exact Mq 9223372036854775808 w0 F0 hF hG true QF

section
variable {N : Nat}
theorem PV (l : List Line) (hl : l.length < 4000000000) (hN : 4294967300 < N) : ED N l = some (l.all fun x => decide (x.Call.length <= 40)) := by
 unfold ED
 rw [Qs (l := l) (fun x => decide (x.Call.length <= 40)) false (fun i hi => by
  unfold DX
  rw [Ec hi, cond_true, Cf hi, Option.bind_some, IC i (by omega), show decide ((l[i].Call.length : Int) > 40) = !decide (l[i].Call.length <= 40) by rw [<- decide_not, decide_eq_decide]; omega]
  cases decide (l[i].Call.length <= 40) <;> rfl) (by
  unfold DX
  rw [C8, cond_false]) (by omega)]
 cases l.all fun x => decide (x.Call.length <= 40) <;> rfl
structure Few (l : Log) : Prop where
 n : l.Lines.length <= 800
 j : l.Jumps.length <= 40
 c : l.Call.length <= 40
 x : ∀ x, x ∈ l.Lines -> x.Call.length <= 40
 s : l.Lines.length <= 60 \/ 400 < l.Lines.length
theorem Few.fit {l : Log} (h : Few l) : S6 l := ⟨by have := h.j; omega, by have := h.n; omega, fun x hx => by have := h.x x hx; unfold TI; omega⟩
theorem TJ (l : Log) (hN : 4294967300 < N) : ∃ b, HV N l = some b /\ (b = true -> Few l) := by
 unfold HV
 by_cases h1 : l.Lines.length <= 60
 ·rw [decide_eq_true (show (l.Lines.length : Int) <= 60 by omega), cond_true]
  by_cases h2 : l.Jumps.length <= 40
  ·rw [decide_eq_true (show (l.Jumps.length : Int) <= 40 by omega), cond_true]
   by_cases h3 : l.Call.length <= 40
   ·rw [decide_eq_true (show (l.Call.length : Int) <= 40 by omega), cond_true, PV _ (by omega) hN]
    refine ⟨_, rfl, fun h => ⟨by omega, h2, h3, fun x hx => ?_, .inl h1⟩⟩
    rw [List.all_eq_true] at h
    simpa using h x hx
   ·rw [decide_eq_false (show ¬ (l.Call.length : Int) <= 40 by omega)]
    exact ⟨_, rfl, fun h => by cases h⟩
  ·rw [decide_eq_false (show ¬ (l.Jumps.length : Int) <= 40 by omega)]
   exact ⟨_, rfl, fun h => by cases h⟩
 ·rw [decide_eq_false (show ¬ (l.Lines.length : Int) <= 60 by omega), cond_false]
  by_cases h4 : l.Lines.length > 400
  ·rw [decide_eq_true (show (l.Lines.length : Int) > 400 by omega), cond_true]
   by_cases h5 : l.Lines.length <= 800
   ·rw [decide_eq_true (show (l.Lines.length : Int) <= 800 by omega), cond_true]
    by_cases h2 : l.Jumps.length <= 40
    ·rw [decide_eq_true (show (l.Jumps.length : Int) <= 40 by omega), cond_true]
     by_cases h3 : l.Call.length <= 40
     ·rw [decide_eq_true (show (l.Call.length : Int) <= 40 by omega), cond_true, PV _ (by omega) hN]
      refine ⟨_, rfl, fun h => ⟨by omega, h2, h3, fun x hx => ?_, .inr (by omega)⟩⟩
      rw [List.all_eq_true] at h
      simpa using h x hx
     ·rw [decide_eq_false (show ¬ (l.Call.length : Int) <= 40 by omega)]
      exact ⟨_, rfl, fun h => by cases h⟩
    ·rw [decide_eq_false (show ¬ (l.Jumps.length : Int) <= 40 by omega)]
     exact ⟨_, rfl, fun h => by cases h⟩
   ·rw [decide_eq_false (show ¬ (l.Lines.length : Int) <= 800 by omega)]
    exact ⟨_, rfl, fun h => by cases h⟩
  ·rw [decide_eq_false (show ¬ (l.Lines.length : Int) > 400 by omega)]
   exact ⟨_, rfl, fun h => by cases h⟩
end





section
open Go.Lib (decDigits)
section
variable {N : Nat}
structure VL (o : Ac) (l : Log) : Prop where
 h : Ry l = true
 j : l.Jumps.length <= 16
 n : l.Lines.length <= 400
 ok : ∀ i, i < l.Lines.length -> Oh o l.Lines i = true
theorem RN {o : Ac} {l : Log} : (chk o l).1 = 0 ↔ VL o l := by
 unfold chk
 constructor
 ·intro h
  split at h
  ·cases h
  ·rename_i h1
   split at h
   ·cases h
   ·rename_i h2
    rw [Bool.not_eq_false] at h2
    cases hf : GJ o l.Lines with
    | some k => rw [hf] at h; cases h
    | none => exact ⟨h2, by omega, by omega, OO hf⟩
 ·intro h
  rw [if_neg (by have := h.j; have := h.n; omega), if_neg (by rw [h.h]; decide)]
  cases hf : GJ o l.Lines with
  | some k =>
   obtain ⟨h1, h2, _⟩ := ON hf
   rw [h.ok k h1] at h2; cases h2
  | none => rfl
end
end


def Em (N : Nat) (x0 : Log) (x1 : (Line -> Option Bool)) : (List Int × Int) -> Option (Ba (List Int) (List Int × Int)) := fun s29 =>
 (bif (decide (s29.2 < (x0.Lines.length : Int))) then ((idx x0.Lines s29.2).bind fun x54 => ((x1 x54).bind fun r73 => ((bif r73 then ((CC s29.1 [s29.2]).bind fun r101 => some r101) else some s29.1).bind fun j84 => some (.next (j84, (W64 (s29.2 + 1))))))) else some (.done (s29.1, s29.2)))
def Fd (N : Nat) (x0 : Log) (x1 : (Line -> Option Bool)) : Option (List Int) :=
 ((AQ (Em N x0 x1) N (([] : List Int), 0)).bind fun o => o.k (fun r => some r) (fun s39 => some s39.1))
theorem Iu : Ae Tryz.prog 127 := fun _ _ => by kernel_rfl
theorem JC (N : Nat) (w0 : World) (F0 : Mem) (hF : UZ w0 F0) (x0 : Log) (a0_4 : UY) (n0_4 : Nat) (hb0_4 : LC x0.Jumps.length n0_4) (hs0_4 : SlA AB F0 a0_4 x0.Jumps) (a0_5 : UY) (n0_5 : Nat) (hb0_5 : LC x0.Lines.length n0_5) (hs0_5 : SlA AF F0 a0_5 x0.Lines) (gx1 : FuncId) (fx1 kx1 : List Value) (x1 : Line -> Option Bool) (hox1 : Ae Tryz.prog gx1) (hpx1 : OW F0 gx1 fx1 kx1 x1) (r : (List Int)) (h : Fd N x0 x1 = some r) :
  Calls Tryz.prog 127 ([(.agg (AC x0 a0_4 n0_4 a0_5 n0_5)), (.func (.func gx1) fx1.toArray kx1.toArray)] : List Value).toArray w0 (AD w0 F0 fun F' v => ∃ (aq0_0 : UY) (nq0_0 : Nat), v = (.slice aq0_0 r.length nq0_0) /\ LC r.length nq0_0 /\ SlA AB F' aq0_0 r) := by
 have hs0 := UE hF
 refine Go 25 Tryz.func127 <| Sq (Rg [0, 1] ?_)
 refine Bx' 27 (AC x0 a0_4 n0_4 a0_5 n0_5) hs0 (fun b21 w22 hs23 => ?_)
 refine Vs 1 <| Nss (Rg [0] ?_)
 refine Vs 1 <| Nss <| Sq (Rg (rG 4) ?_)
 refine Vs 1 <| Ld hs23.at0 <| Vs 2 <| Nt ?_
 have hs24 := hs23.dr0.dummy (oc #[] 0)
 obtain ⟨o26, ho27, h28⟩ := bind_some h
 refine UJ (fun f w => ∃ (s39 : (List Int × Int)) (F2 : Mem) (as39_0 : UY) (ns39_0 : Nat) (es39_0 : Option Nat × Obj), o26 = .done s39 /\ HS w0 F0 w F2 [es39_0] /\ UC F0 F2 /\ FI f [] [(5, (.slice as39_0 s39.1.length ns39_0))] /\ Ap AB 3 F2 as39_0 ns39_0 s39.1 es39_0) ?_ ?_
 ·refine Bk ?_
  refine UB (by kernel_rfl) (fun m f w => ∃ (s29 : (List Int × Int)) (F1 : Mem) (as29_0 : UY) (ns29_0 : Nat) (es29_0 : Option Nat × Obj), AQ (Em N x0 x1) m s29 = some o26 /\ HS w0 F0 w F1 [es29_0] /\ UC F0 F1 /\ FI f [] [(1, (.func (.func gx1) fx1.toArray kx1.toArray)), (5, (.slice as29_0 s29.1.length ns29_0)), (9, (.slice a0_5 x0.Lines.length n0_5)), (10, (vi (x0.Lines.length : Int))), (11, (vi s29.2))] /\ Ap AB 3 F1 as29_0 ns29_0 s29.1 es29_0) N ⟨(([] : List Int), 0), F0, none, 0, (none, .cells #[] 0 (0, 0)), ho27, hs24, (UD _), fI, (UR AB 3 F0 _)⟩ ?_
  rintro m45 f w30 ⟨s29, F1, as29_0, ns29_0, es29_0, hit46, hs31, le32, ⟨_, rfl⟩, hrs29_0⟩
  obtain ⟨m47, fl48, rfl, hb49, hnx50⟩ := AH hit46
  refine Sq (Rg [0] ?_)
  refine Vs 1 <| Nss <| Cd hb49 (fun hb51 h52 => ?_) (fun hb51 h53 => ?_)
  ·refine Sc ?_
   refine Ab <| Sq <| Bk <| Sq (Rg (rG 6) ?_)
   refine Vs 1 ?_
   obtain ⟨x54, hx55, h57⟩ := bind_some h52
   obtain ⟨hi56, hx55'⟩ := An hx55
   obtain ⟨b58, o59, C60, E61, fz62, rfl, hF64, hE65⟩ := UK (UF hs0_5 le32) hx55'
   have hc67 := hE65 _ _ hx55'
   refine Ix hi56 <| Lx 0 (hs31.pers _ _ hF64) hc67 <| Al' 34 #[(vi 0), (vi 0), (vi 0), (vi 0), (sv (([] : UX))), (vi 0), (vi 0), (vi 0), (vi 0), (vi 0), (vi 0)] hs31 (fun b68 w69 hs70 => ?_)
   refine Vs 1 <| St0 (BF x54) hs70 (fun w71 hs72 => ?_)
   refine Nss (Rg [0, 1, 2] ?_)
   refine Vs 1 <| Ld hs72.at0 ?_
   obtain ⟨r73, hr74, h75⟩ := bind_some h57
   refine Cq hox1 hs72 (hpx1 w71 F1 x54 _ le32 hs72.pers hr74) ?_
   rintro _ F3 w77 hs78 le79 rfl
   refine Nt ?_
   obtain ⟨j84, hj91, h92⟩ := bind_some h75
   refine UJ (fun f w => ∃ (F4 : Mem) (aj84_0 : UY) (nj84_0 : Nat) (ej84_0 : Option Nat × Obj), HS w0 F0 w F4 [ej84_0] /\ UC F3 F4 /\ FI f [] [(1, (.func (.func gx1) fx1.toArray kx1.toArray)), (5, (.slice aj84_0 j84.length nj84_0)), (9, (.slice (some ⟨b58, o59, none⟩) x0.Lines.length n0_5)), (10, (vi (x0.Lines.length : Int))), (11, (vi s29.2))] /\ Ap AB 3 F4 aj84_0 nj84_0 j84 ej84_0) ?_ ?_
   ·refine Cd hj91 (fun hb93 h94 => ?_) (fun hb93 h95 => ?_)
    ·refine Rg (rG 5) ?_
     refine Vs 2 <| Bs 3 [(vi s29.2)] hs78 (fun b96 w97 hs98 => ?_)
     have hr100 : Ap AB 3 F3 (some ⟨b96, 0, none⟩) 1 [s29.2] (some b96, .cells ([(vi s29.2)] : List Value).toArray 3 (0, 0)) := US ⟨rfl, rfl⟩ (by simp)
     obtain ⟨r101, hap102, h103⟩ := bind_some h94
     refine Ap2 Ra hs98 (hrs29_0.mono le79) (hs98.rd0 hr100) hap102 (fun a104 n105 e106 w107 hs108 hr109 => ?_)
     refine Vs 1 <| Uy ?_
     obtain rfl := Aa h103
     exact .inl ⟨rfl, F3, a104, n105, e106, hs108.dr0.dr0, (UD _), fI, hr109⟩
    ·refine Sc ?_
     obtain rfl := Aa h95
     exact .inl ⟨rfl, F3, as29_0, ns29_0, es29_0, hs78.dr0, (UD _), fI, (hrs29_0.mono le79)⟩
   ·rintro f w81 ⟨F4, aj84_0, nj84_0, ej84_0, hs82, le83, ⟨_, rfl⟩, hrj84_0⟩
    refine Ar <| Ab <| Rg [0, 1] <| Vs 2 <| Uy ?_
    have hn110 := AM h92 hnx50
    exact ⟨m47, Nat.lt_succ_self _, (j84, (W64 (s29.2 + 1))), F4, aj84_0, nj84_0, ej84_0, hn110, hs82, ((le32.t le79).trans le83), fI, hrj84_0⟩
  ·refine Ex ?_
   refine Aq <| Aq <| Az rfl ?_
   have ho111 := AJ h53 hnx50
   exact .inl ⟨rfl, (s29.1, s29.2), F1, as29_0, ns29_0, es29_0, ho111, hs31, le32, fI, hrs29_0⟩
 ·rintro f w40 ⟨s39, F2, as39_0, ns39_0, es39_0, rfl, hs41, le42, ⟨_, rfl⟩, hrs39_0⟩
  have h112 := Bn h28
  refine Ab <| Sq (Rg [0, 1] ?_)
  refine Vs 2 <| Nt <| Rt ?_
  have hb116 := UQ hrs39_0
  obtain ⟨F5, hs113, le114, hs115⟩ := hs41.fr0 hrs39_0
  obtain rfl := Aa h112
  exact Re [(.slice as39_0 s39.1.length ns39_0)] hs113 ⟨as39_0, ns39_0, rfl, hb116, hs115⟩
def DV (N : Nat) (x0 : Line) (z0 : Span) : Option Bool :=
 ((AP N x0.Minute z0.Lo z0.Hi).bind fun r24 => some r24)
theorem Jw : Ae Tryz.prog 128 := fun _ _ => by kernel_rfl
theorem Kd (N : Nat) (w0 : World) (F0 : Mem) (hF : UZ w0 F0) (x0 : Line) (bz0 : Nat) (z0 : Span) (hz0 : F0 bz0 = some (oc #[(vi z0.Lo), (vi z0.Hi)] 80)) (r : Bool) (h : DV N x0 z0 = some r) :
  Calls Tryz.prog 128 ([(.agg (BF x0)), (pt bz0 0)] : List Value).toArray w0 (AD w0 F0 fun F' v => v = (.bool r)) := by
 have hs0 := UE hF
 refine Go 11 Tryz.func128 <| Sq (Rg [0, 1] ?_)
 refine Bx' 34 (BF x0) hs0 (fun b21 w22 hs23 => ?_)
 refine Vs 1 <| Nss (Rg (rG 8) ?_)
 refine Vs 1 <| Ld hs23.at0 <| Vs 1 <| Ld (hs23.pers _ _ hz0) <| Vs 1 <| Ld (hs23.pers _ _ hz0) ?_
 obtain ⟨r24, hr25, h26⟩ := bind_some h
 refine Cl' AG hs23 (AL N w22 F0 hs23.pers x0.Minute z0.Lo z0.Hi _ hr25) ?_
 rintro _ F1 w28 hs29 le30 rfl
 refine Vs 1 <| Nt <| Rt ?_
 obtain rfl := Aa h26
 exact Re [(.bool r24)] hs29 rfl
def Cy (N : Nat) (x0 : Log) (x1 : Span) : Option (List Int) :=
 ((Fd N x0 (fun y0 => DV N y0 x1)).bind fun r30 => some r30)
theorem EQ : Ae Tryz.prog 56 := fun _ _ => by kernel_rfl
theorem Fj (N : Nat) (w0 : World) (F0 : Mem) (hF : UZ w0 F0) (x0 : Log) (a0_4 : UY) (n0_4 : Nat) (hb0_4 : LC x0.Jumps.length n0_4) (hs0_4 : SlA AB F0 a0_4 x0.Jumps) (a0_5 : UY) (n0_5 : Nat) (hb0_5 : LC x0.Lines.length n0_5) (hs0_5 : SlA AF F0 a0_5 x0.Lines) (x1 : Span) (r : (List Int)) (h : Cy N x0 x1 = some r) :
  Calls Tryz.prog 56 ([(.agg (AC x0 a0_4 n0_4 a0_5 n0_5)), (.agg #[(vi x1.Lo), (vi x1.Hi)])] : List Value).toArray w0 (AD w0 F0 fun F' v => ∃ (aq0_0 : UY) (nq0_0 : Nat), v = (.slice aq0_0 r.length nq0_0) /\ LC r.length nq0_0 /\ SlA AB F' aq0_0 r) := by
 have hs0 := UE hF
 refine Go 8 Tryz.func56 <| Sq (Rg [0, 1, 2] ?_)
 refine Bx' 27 (AC x0 a0_4 n0_4 a0_5 n0_5) hs0 (fun b21 w22 hs23 => ?_)
 refine Bx' 80 #[(vi x1.Lo), (vi x1.Hi)] hs23 (fun b24 w25 hs26 => ?_)
 refine Vs 1 <| Nss (Rg (rG 4) ?_)
 refine Ld hs26.at1 <| Vs 1 ?_
 obtain ⟨F1, hs27, le28, hF29⟩ := hs26.fc0
 obtain ⟨r30, hr31, h32⟩ := bind_some h
 refine Cl' Iu hs27 (JC N w25 F1 hs27.pers x0 a0_4 n0_4 hb0_4 (UF hs0_4 le28) a0_5 n0_5 hb0_5 (UF hs0_5 le28) 128 [] [(pt b24 0)] (fun y0 => DV N y0 x1) Jw (fun w1 F1 y0 r le1 pe1 hr1 => Kd N w1 F1 pe1  y0 b24 x1 (le1 _ _ hF29) r hr1) _ hr31) ?_
 rintro _ F2 w34 hs35 le36 ⟨ar30_0_0, nr30_0_0, rfl, hbr30_0_0, hsr30_0_0⟩
 refine Vs 1 <| Nt <| Rt ?_
 obtain rfl := Aa h32
 exact Re [(.slice ar30_0_0 r30.length nr30_0_0)] hs35 ⟨ar30_0_0, nr30_0_0, rfl, hbr30_0_0, hsr30_0_0⟩
def C9 (N : Nat) (x0 : Log) : (List UX × Int) -> Option (Ba (List UX) (List UX × Int)) := fun s29 =>
 (bif (decide (s29.2 < (x0.Lines.length : Int))) then ((idx x0.Lines s29.2).bind fun x53 => ((CC s29.1 [x53.Call]).bind fun r77 => some (.next (r77, (W64 (s29.2 + 1)))))) else some (.done (s29.1, s29.2)))
def Eo (N : Nat) (x0 : Log) : Option (List UX) :=
 ((AQ (C9 N x0) N (([] : List UX), 0)).bind fun o => o.k (fun r => some r) (fun s38 => ((B0 N s38.1).bind fun r89 => ((A2 N r89).bind fun r98 => some r98))))
theorem J6 : Ae Tryz.prog 58 := fun _ _ => by kernel_rfl
theorem K6 (N : Nat) (w0 : World) (F0 : Mem) (hF : UZ w0 F0) (x0 : Log) (a0_4 : UY) (n0_4 : Nat) (hb0_4 : LC x0.Jumps.length n0_4) (hs0_4 : SlA AB F0 a0_4 x0.Jumps) (a0_5 : UY) (n0_5 : Nat) (hb0_5 : LC x0.Lines.length n0_5) (hs0_5 : SlA AF F0 a0_5 x0.Lines) (r : (List UX)) (h : Eo N x0 = some r) :
  Calls Tryz.prog 58 ([(.agg (AC x0 a0_4 n0_4 a0_5 n0_5))] : List Value).toArray w0 (AD w0 F0 fun F' v => ∃ (aq0_0 : UY) (nq0_0 : Nat), v = (.slice aq0_0 r.length nq0_0) /\ LC r.length nq0_0 /\ SlA AK F' aq0_0 r) := by
 have hs0 := UE hF
 refine Go 23 Tryz.func58 <| Sq (Rg [0, 1] ?_)
 refine Bx' 27 (AC x0 a0_4 n0_4 a0_5 n0_5) hs0 (fun b21 w22 hs23 => ?_)
 refine Vs 1 <| Nss (Rg [0] ?_)
 refine Vs 1 <| Nss <| Sq (Rg (rG 4) ?_)
 refine Vs 1 <| Ld hs23.at0 <| Vs 2 <| Nt ?_
 have hs24 := hs23.dr0.dummy (oc #[] 0)
 obtain ⟨o26, ho27, h28⟩ := bind_some h
 refine UJ (fun f w => ∃ (s38 : (List UX × Int)) (F2 : Mem) (as38_0 : UY) (ns38_0 : Nat) (es38_0 : Option Nat × Obj), o26 = .done s38 /\ HS w0 F0 w F2 [es38_0] /\ UC F0 F2 /\ FI f [] [(3, (.slice as38_0 s38.1.length ns38_0))] /\ Ap AK 9 F2 as38_0 ns38_0 s38.1 es38_0) ?_ ?_
 ·refine Bk ?_
  refine UB (by kernel_rfl) (fun m f w => ∃ (s29 : (List UX × Int)) (F1 : Mem) (as29_0 : UY) (ns29_0 : Nat) (es29_0 : Option Nat × Obj), AQ (C9 N x0) m s29 = some o26 /\ HS w0 F0 w F1 [es29_0] /\ UC F0 F1 /\ FI f [] [(3, (.slice as29_0 s29.1.length ns29_0)), (7, (.slice a0_5 x0.Lines.length n0_5)), (8, (vi (x0.Lines.length : Int))), (9, (vi s29.2))] /\ Ap AK 9 F1 as29_0 ns29_0 s29.1 es29_0) N ⟨(([] : List UX), 0), F0, none, 0, (none, .cells #[] 0 (0, 0)), ho27, hs24, (UD _), fI, (UR AK 9 F0 _)⟩ ?_
  rintro m44 f w30 ⟨s29, F1, as29_0, ns29_0, es29_0, hit45, hs31, le32, ⟨_, rfl⟩, hrs29_0⟩
  obtain ⟨m46, fl47, rfl, hb48, hnx49⟩ := AH hit45
  refine Sq (Rg [0] ?_)
  refine Vs 1 <| Nss <| Cd hb48 (fun hb50 h51 => ?_) (fun hb50 h52 => ?_)
  ·refine Sc ?_
   refine Ab <| Sq <| Bk <| Sq (Rg (rG 4) ?_)
   obtain ⟨x53, hx54, h56⟩ := bind_some h51
   obtain ⟨hi55, hx54'⟩ := An hx54
   obtain ⟨b57, o58, C59, E60, fz61, rfl, hF63, hE64⟩ := UK (UF hs0_5 le32) hx54'
   have hc66 := hE64 _ _ hx54'
   refine Ix hi55 <| Lx 0 (hs31.pers _ _ hF63) hc66 <| Al' 34 #[(vi 0), (vi 0), (vi 0), (vi 0), (sv (([] : UX))), (vi 0), (vi 0), (vi 0), (vi 0), (vi 0), (vi 0)] hs31 (fun b67 w68 hs69 => ?_)
   refine St0 (BF x53) hs69 (fun w70 hs71 => ?_)
   refine Nt <| Rg (rG 6) <| Vs 2 <| Ld hs71.at0 <| Bs 9 [(sv x53.Call)] hs71 (fun b72 w73 hs74 => ?_)
   have hr76 : Ap AK 9 F1 (some ⟨b72, 0, none⟩) 1 [x53.Call] (some b72, .cells ([(sv x53.Call)] : List Value).toArray 9 (0, 0)) := US ⟨rfl, rfl⟩ (by simp)
   obtain ⟨r77, hap78, h79⟩ := bind_some h56
   refine Ap2 Tt hs74 hrs29_0 (hs74.rd0 hr76) hap78 (fun a80 n81 e82 w83 hs84 hr85 => ?_)
   refine Vs 1 <| Uy <| Ar <| Ab <| Rg [0, 1] <| Vs 2 <| Uy ?_
   have hn86 := AM h79 hnx49
   exact ⟨m46, Nat.lt_succ_self _, (r77, (W64 (s29.2 + 1))), F1, a80, n81, e82, hn86, hs84.dr0.dr0, le32, fI, hr85⟩
  ·refine Ex ?_
   refine Aq <| Aq <| Az rfl ?_
   have ho87 := AJ h52 hnx49
   exact .inl ⟨rfl, (s29.1, s29.2), F1, as29_0, ns29_0, es29_0, ho87, hs31, le32, fI, hrs29_0⟩
 ·rintro f w39 ⟨s38, F2, as38_0, ns38_0, es38_0, rfl, hs40, le41, ⟨_, rfl⟩, hrs38_0⟩
  have h88 := Bn h28
  refine Ab <| Sq (Rg [0, 1] ?_)
  refine Vs 1 ?_
  obtain ⟨r89, hr90, h91⟩ := bind_some h88
  refine RWP.callS (dst := (some 20)) (ty := 0) (g := none) (by kernel_rfl) rfl (f0 := (.func 129)) (aos := #[(.tmp 19)]) (ats := #[55]) (fid := 129) (first := #[]) (cap := #[]) (args := [(.slice as38_0 s38.1.length ns38_0)]) rfl EO rfl (E0 N (Lf := []) s38.1 as38_0 ns38_0 es38_0 hrs38_0 hs40  _ hr90) ?_
  rintro _ w93 ⟨F3, e92, rfl, hs94, le95, hr96⟩
  refine ⟨_, rfl, ?_⟩
  have hs97 : HS w0 F0 w93 F3 [e92] := hs94
  refine Nss (Rg [0, 1, 2] ?_)
  refine V 21 55 (mv 3 (.slice as38_0 r89.length ns38_0) (Rp rfl (EN hr90))) ?_
  obtain ⟨r98, hr99, h100⟩ := bind_some h91
  refine RWP.callS (dst := (some 22)) (ty := 55) (g := none) (by kernel_rfl) rfl (f0 := (.func 130)) (aos := #[(.tmp 21)]) (ats := #[55]) (fid := 130) (first := #[]) (cap := #[]) (args := [(.slice as38_0 r89.length ns38_0)]) rfl D9 rfl (Eh N (Lf := []) r89 as38_0 ns38_0 e92 hr96 hs97  _ hr99) ?_
  rintro _ w102 ⟨F4, e101, rfl, hs103, le104, hr105⟩
  refine ⟨_, rfl, ?_⟩
  have hs106 : HS w0 F0 w102 F4 [e101] := hs103
  refine Vs 1 <| Nt <| Rt ?_
  have hb110 := UQ hr105
  obtain ⟨F5, hs107, le108, hs109⟩ := hs106.fr0 hr105
  obtain rfl := Aa h100
  exact Re [(.slice as38_0 r98.length ns38_0)] hs107 ⟨as38_0, ns38_0, rfl, hb110, hs109⟩
def HU (N : Nat) (x0 : Line) (z0 : UX) : Option Bool :=
 some (x0.Call == z0)
theorem NM : Ae Tryz.prog 131 := fun _ _ => by kernel_rfl
theorem OG (N : Nat) (w0 : World) (F0 : Mem) (hF : UZ w0 F0) (x0 : Line) (bz0 : Nat) (z0 : UX) (hz0 : F0 bz0 = some (oc #[(sv z0)] 9)) (r : Bool) (h : HU N x0 z0 = some r) :
  Calls Tryz.prog 131 ([(.agg (BF x0)), (pt bz0 0)] : List Value).toArray w0 (AD w0 F0 fun F' v => v = (.bool r)) := by
 have hs0 := UE hF
 refine Go 8 Tryz.func131 <| Sq (Rg [0, 1] ?_)
 refine Bx' 34 (BF x0) hs0 (fun b21 w22 hs23 => ?_)
 refine Vs 1 <| Nss (Rg (rG 5) ?_)
 refine Vs 1 <| Ld hs23.at0 <| Ld (hs23.pers _ _ hz0) <| Vs 2 <| Nt <| Rt ?_
 obtain rfl := Aa h
 exact Re [(.bool (x0.Call == z0))] hs23 rfl
def Ll (N : Nat) (x0 : Log) (x1 : UX) : Option (List Int) :=
 ((Fd N x0 (fun y0 => HU N y0 x1)).bind fun r30 => some r30)
theorem Pz : Ae Tryz.prog 59 := fun _ _ => by kernel_rfl
theorem QD (N : Nat) (w0 : World) (F0 : Mem) (hF : UZ w0 F0) (x0 : Log) (a0_4 : UY) (n0_4 : Nat) (hb0_4 : LC x0.Jumps.length n0_4) (hs0_4 : SlA AB F0 a0_4 x0.Jumps) (a0_5 : UY) (n0_5 : Nat) (hb0_5 : LC x0.Lines.length n0_5) (hs0_5 : SlA AF F0 a0_5 x0.Lines) (x1 : UX) (r : (List Int)) (h : Ll N x0 x1 = some r) :
  Calls Tryz.prog 59 ([(.agg (AC x0 a0_4 n0_4 a0_5 n0_5)), (sv x1)] : List Value).toArray w0 (AD w0 F0 fun F' v => ∃ (aq0_0 : UY) (nq0_0 : Nat), v = (.slice aq0_0 r.length nq0_0) /\ LC r.length nq0_0 /\ SlA AB F' aq0_0 r) := by
 have hs0 := UE hF
 refine Go 8 Tryz.func59 <| Sq (Rg [0, 1, 2] ?_)
 refine Bx' 27 (AC x0 a0_4 n0_4 a0_5 n0_5) hs0 (fun b21 w22 hs23 => ?_)
 refine Bx' 9 #[(sv x1)] hs23 (fun b24 w25 hs26 => ?_)
 refine Vs 1 <| Nss (Rg (rG 4) ?_)
 refine Ld hs26.at1 <| Vs 1 ?_
 obtain ⟨F1, hs27, le28, hF29⟩ := hs26.fc0
 obtain ⟨r30, hr31, h32⟩ := bind_some h
 refine Cl' Iu hs27 (JC N w25 F1 hs27.pers x0 a0_4 n0_4 hb0_4 (UF hs0_4 le28) a0_5 n0_5 hb0_5 (UF hs0_5 le28) 131 [] [(pt b24 0)] (fun y0 => HU N y0 x1) NM (fun w1 F1 y0 r le1 pe1 hr1 => OG N w1 F1 pe1  y0 b24 x1 (le1 _ _ hF29) r hr1) _ hr31) ?_
 rintro _ F2 w34 hs35 le36 ⟨ar30_0_0, nr30_0_0, rfl, hbr30_0_0, hsr30_0_0⟩
 refine Vs 1 <| Nt <| Rt ?_
 obtain rfl := Aa h32
 exact Re [(.slice ar30_0_0 r30.length nr30_0_0)] hs35 ⟨ar30_0_0, nr30_0_0, rfl, hbr30_0_0, hsr30_0_0⟩
def Cx (N : Nat) (x0 : Line) (z0 : Int) : Option Bool :=
 some (x0.Num == z0)
theorem K2 : Ae Tryz.prog 133 := fun _ _ => by kernel_rfl
theorem Mp (N : Nat) (w0 : World) (F0 : Mem) (hF : UZ w0 F0) (x0 : Line) (bz0 : Nat) (z0 : Int) (hz0 : F0 bz0 = some (oc #[(vi z0)] 3)) (r : Bool) (h : Cx N x0 z0 = some r) :
  Calls Tryz.prog 133 ([(.agg (BF x0)), (pt bz0 0)] : List Value).toArray w0 (AD w0 F0 fun F' v => v = (.bool r)) := by
 have hs0 := UE hF
 refine Go 8 Tryz.func133 <| Sq (Rg [0, 1] ?_)
 refine Bx' 34 (BF x0) hs0 (fun b21 w22 hs23 => ?_)
 refine Vs 1 <| Nss (Rg (rG 5) ?_)
 refine Vs 1 <| Ld hs23.at0 <| Ld (hs23.pers _ _ hz0) <| Vs 2 <| Nt <| Rt ?_
 obtain rfl := Aa h
 exact Re [(.bool (x0.Num == z0))] hs23 rfl
def GH (N : Nat) (x0 : Log) (x1 : Int) : Option (Int × Int) :=
 ((Bj N x0.Lines (fun y0 => Cx N y0 x1)).bind fun r30 => (bif (decide (r30 < 0)) then some (0, 3) else some (r30, 0)))
theorem MG : Ae Tryz.prog 60 := fun _ _ => by kernel_rfl
theorem NX (N : Nat) (w0 : World) (F0 : Mem) (hF : UZ w0 F0) (x0 : Log) (a0_4 : UY) (n0_4 : Nat) (hb0_4 : LC x0.Jumps.length n0_4) (hs0_4 : SlA AB F0 a0_4 x0.Jumps) (a0_5 : UY) (n0_5 : Nat) (hb0_5 : LC x0.Lines.length n0_5) (hs0_5 : SlA AF F0 a0_5 x0.Lines) (x1 : Int) (r : (Int × Int)) (h : GH N x0 x1 = some r) :
  Calls Tryz.prog 60 ([(.agg (AC x0 a0_4 n0_4 a0_5 n0_5)), (vi x1)] : List Value).toArray w0 (AD w0 F0 fun F' v => v = (.tuple #[(vi r.1), (vi r.2)])) := by
 have hs0 := UE hF
 refine Go 14 Tryz.func60 <| Sq (Rg (rG 4) ?_)
 refine Bx' 27 (AC x0 a0_4 n0_4 a0_5 n0_5) hs0 (fun b21 w22 hs23 => ?_)
 refine Bx' 3 #[(vi x1)] hs23 (fun b24 w25 hs26 => ?_)
 refine Vs 2 <| Nss (Rg (rG 5) ?_)
 refine Vs 1 <| Ld hs26.at1 <| Vs 1 ?_
 obtain ⟨F1, hs27, le28, hF29⟩ := hs26.fc0
 obtain ⟨r30, hr31, h32⟩ := bind_some h
 refine Cl' Dc hs27 (Dj N w25 F1 hs27.pers x0.Lines a0_5 n0_5 hb0_5 (UF hs0_5 le28) 133 [] [(pt b24 0)] (fun y0 => Cx N y0 x1) K2 (fun w1 F1 y0 r le1 pe1 hr1 => Mp N w1 F1 pe1  y0 b24 x1 (le1 _ _ hF29) r hr1) _ hr31) ?_
 rintro _ F2 w34 hs35 le36 rfl
 refine Vs 1 <| Nss <| Sq (Rg [0, 1] ?_)
 refine Vs 2 <| Nt <| Cd h32 (fun hb38 h39 => ?_) (fun hb38 h40 => ?_)
 ·refine Sq (Rg [0, 1] ?_)
  refine Vs 2 <| Nt <| Rt <| Af ?_
  obtain rfl := Aa h39
  exact Re [(vi 0), (vi 3)] hs35 rfl
 ·refine Sc ?_
  refine Ab <| Sq (Rg [0, 1, 2] ?_)
  refine Vs 3 <| Nt <| Rt ?_
  obtain rfl := Aa h40
  exact Re [(vi r30), (vi 0)] hs35 rfl













section
variable {N : Nat}
theorem Sb {α : Type} [DecidableEq α] (a b : List α) (h : a.length = b.length) : IZ a.length (fun i => decide (a[i]? = b[i]?)) = decide (a = b) := by
 rw [Bool.eq_iff_iff, decide_eq_true_eq, OU]
 constructor
 ·intro hh
  apply List.ext_getElem? 
  intro i
  by_cases hi : i < a.length
  ·simpa using hh i hi
  ·rw [List.getElem?_eq_none (by omega), List.getElem?_eq_none (by omega)]
 ·rintro rfl i _
  simp
theorem RM {α : Type} [DecidableEq α] (a b : List α) {body : Int -> Option (Ba Bool Int)} (hl : a.length = b.length) (hn : a.length < N)
  (hb : ∀ i (h : i < a.length) (h2 : i < b.length), body (i : Int) = some (bif decide (a[i] = b[i]) then .next ((i + 1 : Nat) : Int) else .ret false)) (he : body (a.length : Int) = some (.done (a.length : Int))) :
  ((AQ body N 0).bind fun o => o.k (fun r => some r) (fun _ => some true)) = some (decide (a = b)) := by
 rw [Kv (n := a.length) (fun i => decide (a[i]? = b[i]?)) false (fun i hi => by
  rw [hb i hi (by omega), List.getElem?_eq_getElem hi, List.getElem?_eq_getElem (by omega)]
  simp only [Option.some.injEq]) he hn, Sb a b hl]
 cases decide (a = b) <;> rfl
theorem SS {α : Type} (a b : List α) : ((a.length : Int) != (b.length : Int)) = !decide (a.length = b.length) := by
 by_cases h : a.length = b.length
 ·rw [h]; simp
 ·rw [decide_eq_false h]
  simp only [Bool.not_false, bne_iff_ne, ne_eq]
  omega
theorem Rc {α : Type} [DecidableEq α] {a b : List α} (h : ¬ a.length = b.length) : decide (a = b) = false := decide_eq_false fun e => h (by rw [e])
theorem S4 {α : Type} [DecidableEq α] [BEq α] [LawfulBEq α] (x y : α) : (x != y) = !decide (x = y) := by
 by_cases h : x = y
 ·subst h; simp
 ·rw [decide_eq_false h]; simpa using h
theorem P2 {α : Type} [DecidableEq α] [BEq α] [LawfulBEq α] (x y : α) : (x == y) = decide (x = y) := by
 by_cases h : x = y
 ·subst h; simp
 ·rw [decide_eq_false h]; simpa using h
theorem Uh (i : Nat) (h : i + 1 < 9223372036854775808) : W64 ((i : Int) + 1) = ((i + 1 : Nat) : Int) := by
 rw [D7 (by omega) (by omega)]; omega
theorem Su (a b : List Int) (ha : a.length < 9223372036854775808) (hN : a.length < N) : Ci N a b = some (decide (a = b)) := by
 unfold Ci
 rw [SS]
 by_cases h : a.length = b.length
 ·rw [decide_eq_true h, Bool.not_true, cond_false]
  exact RM a b h (by omega) (fun i h1 h2 => by
   unfold CO
   rw [Ec h1, cond_true, Cf h1, Cf h2, Option.bind_some, Option.bind_some, Option.bind_some, S4, Uh i (by omega)]
   cases decide (a[i] = b[i]) <;> rfl) (by
   unfold CO
   rw [C8, cond_false])
 ·rw [decide_eq_false h, Rc h]; rfl
def Cv (p : Line -> Bool) (l : List Line) : List Int := ((List.range l.length).filter fun (i : Nat) => match l[i]? with | some x => p x | none => false).map fun (i : Nat) => (i : Int)
def EY (p : Line -> Bool) (l : List Line) (k : Nat) : List Int := ((List.range k).filter fun (i : Nat) => match l[i]? with | some x => p x | none => false).map fun (i : Nat) => (i : Int)
theorem He (p : Line -> Bool) (l : List Line) (k : Nat) : (EY p l k).length <= k := by
 unfold EY
 rw [List.length_map]
 have := List.length_filter_le (fun i : Nat => match l[i]? with | some x => p x | none => false) (List.range k)
 simpa using this
theorem Nc (p : Line -> Bool) (l : List Line) (k : Nat) (h : k < l.length) : EY p l (k + 1) = if p l[k] = true then EY p l k ++ [(k : Int)] else EY p l k := by
 unfold EY
 rw [List.range_succ, List.filter_append, List.map_append]
 simp only [List.filter_cons, List.filter_nil, List.getElem?_eq_getElem h]
 split <;> simp
theorem OY (p : Line -> Bool) (l : List Line) (hl : l.length < 4000000000) (hN : 4294967300 < N) {ρ : Type} {body : (List Int × Int) -> Option (Ba ρ (List Int × Int))}
  (hb : ∀ i (h : i < l.length) s, body (s, (i : Int)) = ((bif p l[i] then ((CC s [(i : Int)]).bind fun r101 => some r101) else some s).bind fun j84 => some (.next (j84, (W64 ((i : Int) + 1)))))) (he : ∀ s, body (s, (l.length : Int)) = some (.done (s, (l.length : Int)))) :
  AQ body N (([] : List Int), 0) = some (.done (Cv p l, (l.length : Int))) := by
 have := Er (N := N) (body := body) (fun i => (EY p l i, (i : Int))) (o := .done (Cv p l, (l.length : Int))) l.length (fun i hi => by
  rw [hb i hi, IC i (by omega), Nc p l i hi]
  cases p l[i] with
  | false => rfl
  | true =>
   have := He p l i
   rw [cond_true, if_pos rfl]
   unfold CC
   rw [if_pos (by simp; omega)]
   rfl) (he _) (fun _ h => by cases h) (by omega)
 exact this
theorem PU (p : Line -> Bool) (l : Log) (hl : l.Lines.length < 4000000000) (hN : 4294967300 < N) {f : Line -> Option Bool} (hf : ∀ x, f x = some (p x)) : Fd N l f = some (Cv p l.Lines) := by
 unfold Fd
 rw [OY p l.Lines hl hN (fun i h s => by
  unfold Em
  simp only
  rw [Ec h, cond_true, Cf h, Option.bind_some, hf, Option.bind_some]) (fun s => by
  unfold Em
  simp only
  rw [C8, cond_false])]
 rfl
def ofS (l : Log) (c : UX) : List Int := Cv (fun x => decide (x.Call = c)) l.Lines
def OL (l : Log) (s : Span) : List Int := Cv (fun x => decide (s.Lo <= x.Minute) && decide (x.Minute <= s.Hi)) l.Lines
theorem Uo (l : Log) (c : UX) (hl : l.Lines.length < 4000000000) (hN : 4294967300 < N) : Ll N l c = some (ofS l c) := by
 unfold Ll
 rw [PU (fun x => decide (x.Call = c)) l hl hN (fun x => by unfold HU; rw [P2])]; rfl
theorem Rn (l : Log) (s : Span) (hl : l.Lines.length < 4000000000) (hN : 4294967300 < N) : Cy N l s = some (OL l s) := by
 unfold Cy
 rw [PU (fun x => decide (s.Lo <= x.Minute) && decide (x.Minute <= s.Hi)) l hl hN (fun x => by unfold DV; rw [lw]; rfl)]; rfl
def Rx (l : Log) (n : Int) : Int × Int := match (List.range l.Lines.length).find? fun i => match l.Lines[i]? with | some x => decide (x.Num = n) | none => false with
 | some i => ((i : Int), 0)
 | none => (0, 3)
theorem M5 {l : List Line} {n : Int} {k : Nat} (h : ((List.range l.length).find? fun i => match l[i]? with | some x => decide (x.Num = n) | none => false) = some k) : ∃ hk : k < l.length, l[k].Num = n /\ ∀ i (hi : i < l.length), i < k -> l[i].Num ≠ n := by
 rw [List.find?_range_eq_some] at h
 obtain ⟨h1, h2, h3⟩ := h
 have hk : k < l.length := by simpa using h2
 refine ⟨hk, ?_, fun i hi hik => ?_⟩
 ·rw [List.getElem?_eq_getElem hk] at h1
  simpa using h1
 ·have := h3 i hik
  rw [List.getElem?_eq_getElem hi] at this
  simpa using this
theorem M6 {l : List Line} {n : Int} (h : ((List.range l.length).find? fun i => match l[i]? with | some x => decide (x.Num = n) | none => false) = none) : ∀ i (hi : i < l.length), l[i].Num ≠ n := by
 rw [List.find?_range_eq_none] at h
 intro i hi
 have := h i hi
 rw [List.getElem?_eq_getElem hi] at this
 simpa using this
theorem SP (l : Log) (n : Int) (hl : l.Lines.length < 4000000000) (hN : 4294967300 < N) : GH N l n = some (Rx l n) := by
 unfold GH Bj Rx
 have hb : ∀ i (h : i < l.Lines.length), AA N l.Lines (fun y0 => Cx N y0 n) (i : Int) = some (bif decide (l.Lines[i].Num = n) then .ret (i : Int) else .next ((i + 1 : Nat) : Int)) := fun i h => by
  unfold AA Cx
  rw [Ec h, cond_true, Cf h, Option.bind_some, Option.bind_some, P2, IC i (by omega)]
  cases decide (l.Lines[i].Num = n) <;> rfl
 cases hf : (List.range l.Lines.length).find? fun i => match l.Lines[i]? with | some x => decide (x.Num = n) | none => false with
 | some k =>
  obtain ⟨hk, h1, h2⟩ := M5 hf
  have := Er (N := N) (body := AA N l.Lines (fun y0 => Cx N y0 n)) (fun i => (i : Int)) (o := .ret (k : Int)) k (fun i hi => by
   rw [hb i (by omega), decide_eq_false (h2 i (by omega) hi)]; rfl) (by rw [hb k hk, decide_eq_true h1]; rfl) (fun _ h => by cases h) (by omega)
  rw [show (0 : Int) = ((0 : Nat) : Int) from rfl, this]
  show (bif decide ((k : Int) < 0) then some ((0 : Int), (3 : Int)) else some ((k : Int), (0 : Int))) = _
  rw [decide_eq_false (by omega)]; rfl
 | none =>
  have h2 := M6 hf
  have := Er (N := N) (body := AA N l.Lines (fun y0 => Cx N y0 n)) (fun i => (i : Int)) (o := .done (l.Lines.length : Int)) l.Lines.length (fun i hi => by
   rw [hb i hi, decide_eq_false (h2 i hi)]; rfl) (by
   unfold AA
   rw [C8, cond_false]) (fun _ h => by cases h) (by omega)
  rw [show (0 : Int) = ((0 : Nat) : Int) from rfl, this]
  rfl
theorem Rj {α : Type} (f : Line -> α) (l : List Line) (hl : l.length < 4000000000) (hN : 4294967300 < N) {ρ : Type} {body : (List α × Int) -> Option (Ba ρ (List α × Int))}
  (hb : ∀ i (h : i < l.length) s, body (s, (i : Int)) = ((CC s [f l[i]]).bind fun r => some (.next (r, (W64 ((i : Int) + 1)))))) (he : ∀ s, body (s, (l.length : Int)) = some (.done (s, (l.length : Int)))) :
  AQ body N (([] : List α), 0) = some (.done (l.map f, (l.length : Int))) := by
 have := Er (N := N) (body := body) (fun i => ((l.take i).map f, (i : Int))) (o := .done (l.map f, (l.length : Int))) l.length (fun i hi => by
  rw [hb i hi, IC i (by omega)]
  unfold CC
  rw [if_pos (by simp; omega), List.take_add_one, List.getElem?_eq_getElem hi, List.map_append]
  rfl) (by rw [he, List.take_length]) (fun _ h => by cases h) (by omega)
 exact this
end
abbrev Le (a b : UX) : Prop := a <= b
abbrev Ltt (a b : UX) : Prop := a < b
theorem TY (a b : UX) : Ez a b = decide (a < b) := Go.Proofs.bytesLess_eq a b
theorem TZ (a b : UX) : (Ez a b || a == b) = decide (a <= b) := by
 rw [TY, Bool.eq_iff_iff, Bool.or_eq_true, decide_eq_true_eq, decide_eq_true_eq, beq_iff_eq]
 constructor
 ·rintro (h | rfl)
  ·exact List.le_of_lt h
  ·rcases List.le_total a a with h | h <;> exact h
 ·intro h
  by_cases hl : a < b
  ·exact .inl hl
  ·exact .inr (List.le_antisymm h (List.not_lt.1 hl))
theorem On {a b : UX} (h : a <= b) (hn : a ≠ b) : a < b := Classical.byContradiction fun hl => hn (List.le_antisymm h (List.not_lt.1 hl))
theorem T5 {a b : UX} (h : a < b) : a ≠ b := fun e => by subst e; exact List.lt_irrefl a h
theorem Nh (l : List UX) : (Fy l).Pairwise Le := by
 unfold Fy
 have := List.pairwise_mergeSort (le := fun x y : UX => decide (x <= y)) (by intro a b c h1 h2; rw [decide_eq_true_eq] at h1 h2 ⊢; exact List.le_trans h1 h2) (by intro a b; rw [Bool.or_eq_true, decide_eq_true_eq, decide_eq_true_eq]; exact List.le_total a b) l
 exact this.imp (fun h => by rw [decide_eq_true_eq] at h; exact h)
theorem P9 {l : List UX} {x : UX} : x ∈ Fy l ↔ x ∈ l := by
 unfold Fy; exact (List.mergeSort_perm l _).mem_iff
theorem JK (zs : List UX) {j : Nat} (h : j < zs.length) : zs.toArray[j]! = zs[j] := by simp [h]
theorem NL {zs : List UX} {x : UX} : x ∈ Go.Lib.compact zs ↔ x ∈ zs := by
 constructor
 ·intro h
  unfold Go.Lib.compact Go.Lib.compactUpTo at h
  obtain ⟨j, hj, rfl⟩ := List.mem_map.1 h
  have := List.mem_range.1 (List.mem_filter.1 hj).1
  rw [JK zs this]; exact List.getElem_mem this
 ·intro h
  obtain ⟨j, hj, hx⟩ := List.getElem_of_mem h
  have key : ∀ n j, j <= n -> ∀ hj : j < zs.length, zs[j] = x -> x ∈ Go.Lib.compact zs := by
   intro n
   induction n with
   | zero =>
    intro j hjn hj hx
    have : j = 0 := by omega
    subst this
    unfold Go.Lib.compact Go.Lib.compactUpTo
    rw [List.mem_map]
    exact ⟨0, by rw [List.mem_filter, List.mem_range]; exact ⟨hj, by simp [Go.Lib.keeps]⟩, by rw [JK zs hj]; exact hx⟩
   | succ n ih =>
    intro j hjn hj hx
    by_cases hk : Go.Lib.keeps zs.toArray j = true
    ·unfold Go.Lib.compact Go.Lib.compactUpTo
     rw [List.mem_map]
     exact ⟨j, by rw [List.mem_filter, List.mem_range]; exact ⟨hj, hk⟩, by rw [JK zs hj]; exact hx⟩
    ·unfold Go.Lib.keeps at hk
     rw [decide_eq_true_eq] at hk
     have h0 : j ≠ 0 := fun h => hk (.inl h)
     have h1 : zs.toArray[j]! = zs.toArray[j - 1]! := Classical.byContradiction fun h => hk (.inr h)
     rw [JK zs hj, JK zs (show j - 1 < zs.length by omega)] at h1
     exact ih (j - 1) (by omega) (by omega) (by rw [<- h1]; exact hx)
  exact key j j (Nat.le_refl _) hj hx
theorem K0 {zs : List UX} (h : zs.Pairwise Le) : (Go.Lib.compact zs).Pairwise Ltt := by
 unfold Go.Lib.compact Go.Lib.compactUpTo
 rw [List.pairwise_map]
 have hr : ((List.range zs.length).filter (Go.Lib.keeps zs.toArray)).Pairwise (· < ·) := List.pairwise_lt_range.filter _
 refine hr.imp_of_mem ?_
 intro i j hi hj hij
 have h1 := List.mem_range.1 (List.mem_filter.1 hi).1
 have h2 := List.mem_range.1 (List.mem_filter.1 hj).1
 have hk := (List.mem_filter.1 hj).2
 unfold Go.Lib.keeps at hk
 rw [decide_eq_true_eq] at hk
 have hne : zs.toArray[j]! ≠ zs.toArray[j - 1]! := by
  rcases hk with h | h
  ·omega
  ·exact h
 rw [JK zs h2, JK zs (show j - 1 < zs.length by omega)] at hne
 rw [JK zs h1, JK zs h2]
 have a1 : zs[i] <= zs[j - 1]'(by omega) := by
  rcases Nat.lt_or_ge i (j - 1) with h' | h'
  ·exact List.pairwise_iff_getElem.1 h i (j - 1) h1 (by omega) h'
  ·have : i = j - 1 := by omega
   subst this; exact List.le_refl _
 have a2 : zs[j - 1]'(by omega) <= zs[j] := List.pairwise_iff_getElem.1 h (j - 1) j (by omega) h2 (by omega)
 exact On (List.le_trans a1 a2) fun e => hne (List.le_antisymm (by rw [<- e]; exact a1) a2)
section
variable {N : Nat}
def stS (l : List Line) : List UX := Go.Lib.compact (Fy (l.map fun x => x.Call))
theorem O1 (l : List Line) : (stS l).Pairwise Ltt := K0 (Nh _)
theorem R9 {l : List Line} {c : UX} : c ∈ stS l ↔ ∃ x, x ∈ l /\ x.Call = c := by
 unfold stS; rw [NL, P9, List.mem_map]
theorem Sa (l : List Line) : (stS l).length <= l.length := by
 unfold stS
 have := Go.Lib.compact_length_le (Fy (l.map fun x => x.Call))
 unfold Fy at this ⊢
 simpa using this
theorem Pn (l : Log) (hl : l.Lines.length < 4000000000) (hN : 4294967300 < N) : Eo N l = some (stS l.Lines) := by
 unfold Eo
 rw [Rj (fun x => x.Call) l.Lines hl hN (fun i h s => by
  unfold C9
  simp only
  rw [Ec h, cond_true, Cf h, Option.bind_some]) (fun s => by
  unfold C9
  simp only
  rw [C8, cond_false])]
 show (((some (Fy _)).bind fun r89 => (A2 N r89).bind fun r98 => some r98)) = _
 unfold A2
 rw [Option.bind_some, if_pos (Go.Lib.compact_length_le _)]
 rfl
theorem OQ {α : Type} {l m : List α} (h : l.length + m.length < 4294967296) : CC l m = some (l ++ m) := if_pos h
end
def Bm (N : Nat) (x0 : Ac) (x1 : Log) (x2 : AR) (r30 : Bool) (j41 : Bool) (r73 : (List Int)) (r81 : (List Int)) (j94 : Bool) (r159 : (List UX)) (r167 : List Int) (s180 : (Int × List Int)) (j214 : (List Int)) (j252 : Bool) : (Int × List Int) -> Option (Ba Bool (Int × List Int)) := fun s296 =>
 (bif (decide (s296.1 < (j214.length : Int))) then (((idx j214 s296.1).bind fun x345 => (bif (decide (x345 < 0)) then some true else ((idx j214 s296.1).bind fun x362 => some (decide (x362 >= (s296.2.length : Int)))))).bind fun j332 => (bif j332 then some (.ret false) else ((idx j214 s296.1).bind fun x371 => ((idx s296.2 x371).bind fun x385 => ((idx s296.2 x371).bind fun x397 => some (.next ((W64 (s296.1 + 1)), (s296.2.set (x371 : Int).toNat ((W64 (x385 + 1))))))))))) else some (.done (s296.1, s296.2)))
def BH (N : Nat) (x0 : Ac) (x1 : Log) (x2 : AR) (r30 : Bool) (j41 : Bool) (r73 : (List Int)) (r81 : (List Int)) (j94 : Bool) (r159 : (List UX)) (r167 : List Int) : (Int × List Int) -> Option (Ba Bool (Int × List Int)) := fun s180 =>
 (bif (decide (s180.1 < (r159.length : Int))) then (((idx r159 s180.1).bind fun x225 => ((Ll N x1 x225).bind fun r239 => some r239)).bind fun j214 => ((bif ((j214.length : Int) == 0) then some true else (bif (decide (s180.1 > 0)) then ((idx r159 s180.1).bind fun x270 => ((idx r159 (W64 (s180.1 - 1))).bind fun x284 => some (Ez x270 x284 || x270 == x284))) else some false)).bind fun j252 => (bif j252 then some (.ret false) else ((AQ (Bm N x0 x1 x2 r30 j41 r73 r81 j94 r159 r167 s180 j214 j252) N (0, s180.2)).bind fun o => o.k (fun r => some (.ret r)) (fun s309 => some (.next ((W64 (s180.1 + 1)), s309.2))))))) else some (.done (s180.1, s180.2)))
def BG (N : Nat) (x0 : Ac) (x1 : Log) (x2 : AR) (r30 : Bool) (j41 : Bool) (r73 : (List Int)) (r81 : (List Int)) (j94 : Bool) (r159 : (List UX)) (r167 : List Int) (s191 : (Int × List Int)) : Int -> Option (Ba Bool Int) := fun s421 =>
 (bif (decide (s421 < (s191.2.length : Int))) then (((idx x1.Lines s421).bind fun x462 => ((GH N x1 x462.Num).bind fun r476 => some (r476.1, r476.2))).bind fun j451 => (((idx s191.2 s421).bind fun x497 => (bif (x497 != 1) then some true else (bif (j451.2 != 0) then some true else ((CI N ({ Report := x0.Report, Serial := x0.Serial, Zone := x0.Zone } : Ac) x1).bind fun r515 => (bif r515 then some (j451.1 != s421) else some false))))).bind fun j487 => (bif j487 then some (.ret false) else some (.next (W64 (s421 + 1)))))) else some (.done s421))
def DC (N : Nat) (x0 : Ac) (x1 : Log) (x2 : AR) : Option Bool :=
 ((Hs N ).bind fun r30 => (((HV N x1).bind fun r50 => (bif (!r50) then some true else (bif (decide (x2.Span.Lo < (-1000000))) then some true else (bif (decide (x2.Span.Hi > 1000000)) then some true else (bif (decide (x2.Num < (W64 (x2.Span.Lo - 1)))) then some true else some (decide (x2.Num > x2.Span.Hi))))))).bind fun j41 => (bif j41 then some r30 else ((Cy N x1 ({ Lo := x2.Span.Lo, Hi := x2.Num } : Span)).bind fun r73 => ((Cy N x1 ({ Lo := (W64 (x2.Num + 1)), Hi := x2.Span.Hi } : Span)).bind fun r81 => (((CI N ({ Report := x0.Report, Serial := x0.Serial, Zone := x0.Zone } : Ac) x1).bind fun r102 => (bif r102 then ((CC ([] : List Int) r73).bind fun r118 => ((CC r118 r81).bind fun r127 => ((Cy N x1 x2.Span).bind fun r136 => ((Ci N r127 r136).bind fun r148 => some (!r148))))) else some false)).bind fun j94 => (bif j94 then some false else ((Eo N x1).bind fun r159 => ((mk0 0 (x1.Lines.length : Int)).bind fun r167 => ((AQ (BH N x0 x1 x2 r30 j41 r73 r81 j94 r159 r167) N (0, r167)).bind fun o => o.k (fun r => some r) (fun s191 => ((AQ (BG N x0 x1 x2 r30 j41 r73 r81 j94 r159 r167 s191) N 0).bind fun o => o.k (fun r => some r) (fun s431 => some r30)))))))))))))
theorem JG (N : Nat) (w0 : World) (F0 : Mem) (hF : UZ w0 F0) (hG : Bq F0) (x0 : Ac) (x1 : Log) (a1_4 : UY) (n1_4 : Nat) (hb1_4 : LC x1.Jumps.length n1_4) (hs1_4 : SlA AB F0 a1_4 x1.Jumps) (a1_5 : UY) (n1_5 : Nat) (hb1_5 : LC x1.Lines.length n1_5) (hs1_5 : SlA AF F0 a1_5 x1.Lines) (x2 : AR) (r : Bool) (h : DC N x0 x1 x2 = some r) :
  Calls Tryz.prog 17 ([(.agg (Ai x0)), (.agg (AC x1 a1_4 n1_4 a1_5 n1_5)), (.agg (BO x2))] : List Value).toArray w0 (AD w0 F0 fun F' v => v = (.bool r)) := by
 have hs0 := UE hF
 refine Go 188 Tryz.func17 <| Sq (Rg (rG 4) ?_)
 refine Bx' 23 (Ai x0) hs0 (fun b21 w22 hs23 => ?_)
 refine Bx' 27 (AC x1 a1_4 n1_4 a1_5 n1_5) hs23 (fun b24 w25 hs26 => ?_)
 refine Bx' 82 (BO x2) hs26 (fun b27 w28 hs29 => ?_)
 refine Vs 1 <| Nss (Rg [0, 1] ?_)
 obtain ⟨r30, hr31, h32⟩ := bind_some h
 refine Cl' Md hs29 (ML N w28 F0 hs29.pers hG  _ hr31) ?_
 rintro _ F1 w34 hs35 le36 rfl
 refine Vs 1 <| Nss <| Sq (Rg (rG 32) ?_)
 obtain ⟨j41, hj48, h49⟩ := bind_some h32
 refine UI (fun f w => ∃ (F2 : Mem), HS w0 F0 w F2 [(sb b27 (BO x2) 82), (sb b24 (AC x1 a1_4 n1_4 a1_5 n1_5) 27), (sb b21 (Ai x0) 23)] /\ UC F1 F2 /\ FI f [] [(3, (pt b21 0)), (4, (pt b24 0)), (5, (pt b27 0)), (7, (.bool r30)), (50, (.bool j41))]) ?_ ?_
 ·refine Ld hs35.at1 ?_
  obtain ⟨r50, hr51, h52⟩ := bind_some hj48
  refine Cl' NN hs35 (OH N w34 F1 hs35.pers x1 a1_4 n1_4 hb1_4 (UF hs1_4 le36) a1_5 n1_5 hb1_5 (UF hs1_5 le36) _ hr51) ?_
  rintro _ F3 w54 hs55 le56 rfl
  refine Vs 2 <| Sp h52 (fun hb58 h59 => ?_) (fun hb58 h60 => ?_)
  ·refine Ss hb58 4 ?_
   refine Pk1 hb58 <| Vs 1 <| Ss (rfl : true = true) 4 <| Pk1 (rfl : true = true) <| Vs 1 <| Ss (rfl : true = true) 7 <| Pk1 (rfl : true = true) <| Vs 1 <| Ss (rfl : true = true) 6 <| Pk1 (rfl : true = true) ?_
   obtain rfl := Aa h59
   exact Uy ⟨rfl, F3, hs55, le56, fI⟩
  ·refine Vgs hb58 2 ?_
   refine Lg hb58 hs55.at0 <| Vgs hb58 1 <| Pk0 hb58 <| Vs 1 <| Sp h60 (fun hb61 h62 => ?_) (fun hb61 h63 => ?_)
   ·refine Ss hb61 4 ?_
    refine Pk1 hb61 <| Vs 1 <| Ss (rfl : true = true) 7 <| Pk1 (rfl : true = true) <| Vs 1 <| Ss (rfl : true = true) 6 <| Pk1 (rfl : true = true) ?_
    obtain rfl := Aa h62
    exact Uy ⟨rfl, F3, hs55, le56, fI⟩
   ·refine Vgs hb61 2 ?_
    refine Lg hb61 hs55.at0 <| Vgs hb61 1 <| Pk0 hb61 <| Vs 1 <| Sp h63 (fun hb64 h65 => ?_) (fun hb64 h66 => ?_)
    ·refine Ss hb64 7 ?_
     refine Pk1 hb64 <| Vs 1 <| Ss (rfl : true = true) 6 <| Pk1 (rfl : true = true) ?_
     obtain rfl := Aa h65
     exact Uy ⟨rfl, F3, hs55, le56, fI⟩
    ·refine Vgs hb64 1 ?_
     refine Lg hb64 hs55.at0 <| Vgs hb64 2 <| Lg hb64 hs55.at0 <| Vgs hb64 2 <| Pk0 hb64 <| Vs 1 <| Sp h66 (fun hb67 h68 => ?_) (fun hb67 h69 => ?_)
     ·refine Ss hb67 6 ?_
      refine Pk1 hb67 ?_
      obtain rfl := Aa h68
      exact Uy ⟨rfl, F3, hs55, le56, fI⟩
     ·refine Vgs hb67 1 ?_
      refine Lg hb67 hs55.at0 <| Vgs hb67 2 <| Lg hb67 hs55.at0 <| Vgs hb67 1 <| Pk0 hb67 ?_
      obtain rfl := Aa h69
      exact Uy ⟨rfl, F3, hs55, le56, fI⟩
 ·rintro f w38 ⟨F2, hs39, le40, ⟨_, rfl⟩⟩
  refine Ab <| Cd h49 (fun hb70 h71 => ?_) (fun hb70 h72 => ?_)
  ·refine Sq (Rg [0, 1] ?_)
   refine Vs 2 <| Nt <| Rt <| Af ?_
   obtain rfl := Aa h71
   exact Re [(.bool r30)] hs39 rfl
  ·refine Sc ?_
   refine Ab <| Sq (Rg (rG 9) ?_)
   refine Ld hs39.at1 <| Vs 2 <| Ld hs39.at0 <| Vs 1 <| Ld hs39.at0 <| Vs 1 ?_
   obtain ⟨r73, hr74, h75⟩ := bind_some h72
   refine Cl' EQ hs39 (Fj N w38 F2 hs39.pers x1 a1_4 n1_4 hb1_4 (UF hs1_4 (le36.t le40)) a1_5 n1_5 hb1_5 (UF hs1_5 (le36.t le40)) (({ Lo := x2.Span.Lo, Hi := x2.Num } : Span)) _ hr74) ?_
   rintro _ F4 w77 hs78 le79 ⟨ar73_0_0, nr73_0_0, rfl, hbr73_0_0, hsr73_0_0⟩
   refine Vs 1 <| Nss (Rg (rG 10) ?_)
   refine Ld hs78.at1 <| Vs 1 <| Ld hs78.at0 <| Vs 3 <| Ld hs78.at0 <| Vs 1 ?_
   obtain ⟨r81, hr82, h83⟩ := bind_some h75
   refine Cl' EQ hs78 (Fj N w77 F4 hs78.pers x1 a1_4 n1_4 hb1_4 (UF hs1_4 ((le36.t le40).trans le79)) a1_5 n1_5 hb1_5 (UF hs1_5 ((le36.t le40).trans le79)) (({ Lo := (W64 (x2.Num + 1)), Hi := x2.Span.Hi } : Span)) _ hr82) ?_
   rintro _ F5 w85 hs86 le87 ⟨ar81_0_0, nr81_0_0, rfl, hbr81_0_0, hsr81_0_0⟩
   refine Vs 1 <| Nss <| Sq ?_
   obtain ⟨j94, hj100, h101⟩ := bind_some h83
   refine RD 16 16 [(sb b27 (BO x2) 82), (sb b24 (AC x1 a1_4 n1_4 a1_5 n1_5) 27), (sb b21 (Ai x0) 23)] [] hs86 (fun f w => ∃ (F6 : Mem), HS w0 F0 w F6 [(sb b24 (AC x1 a1_4 n1_4 a1_5 n1_5) 27), (sb b21 (Ai x0) 23)] /\ UC F5 F6 /\ FI f [] [(3, (pt b21 0)), (4, (pt b24 0)), (7, (.bool r30)), (84, (.bool j94))]) (fun wd89 hw90 => ?_) ?_
   ·refine Dl 0 (fun _ hq => (hq.1.2 2 _ _ rfl)) ?_
    refine Dl 1 (fun _ hq => (hq.1.2 1 _ _ rfl)) <| D1 2 ?_
    obtain ⟨r102, hr103, h104⟩ := bind_some hj100
    refine DCl Ef hw90 (ER N wd89 F5 hw90.pers (hG.mono (((le36.t le40).trans le79).trans le87)) (({ Report := x0.Report, Serial := x0.Serial, Zone := x0.Zone } : Ac)) x1 a1_4 n1_4 hb1_4 (UF hs1_4 (((le36.t le40).trans le79).trans le87)) a1_5 n1_5 hb1_5 (UF hs1_5 (((le36.t le40).trans le79).trans le87)) _ hr103) ?_
    rintro _ F7 w106 hs107 le108 rfl
    refine Dv [3] <| Sd h104 (fun hb110 h111 => ?_) (fun hb110 h112 => ?_)
    ·refine Dg 5 74 24 _ 3 true 72 hb110 (fun _ hq => mv 8 (.slice ar73_0_0 r73.length nr73_0_0)) ?_
     refine Dg 7 76 24 _ 3 true 72 hb110 (fun _ hq => mv 9 (.slice ar81_0_0 r81.length nr81_0_0)) <| Dg 9 78 27 _ 3 true 72 hb110 (fun _ hq => ld 27 4 b24 0 true 6 (.agg (AC x1 a1_4 n1_4 a1_5 n1_5)) (hq.1.2 1 _ _ rfl)) <| Dg 10 79 0 (pt b27 2) 3 true 72 hb110 (fun _ hq => fa 82 5 2 2 2 b27 0 2) <| Dg 11 80 80 _ 3 true 72 hb110 (fun _ hq => ld 80 79 b27 2 true 2 (.agg #[(vi x2.Span.Lo), (vi x2.Span.Hi)]) (hq.1.2 0 _ _ rfl)) <| D1 4 <| Aw.buildSlice (l' := [true, true, true, true, true, true, false, true, false, true, true, true, false, false, false, false]) (zd := true) (by kernel_rfl) (by kernel_rfl) (dst := (some 73)) (ty := 24) (g := (some (3, true))) (by kernel_rfl) (Fw (d := 72) (by kernel_rfl) rfl hb110) (t := 24) (len := 0) (parts := #[]) (vs := []) rfl (E := 3) (cs := []) (by kernel_rfl) hs107 le108 (by simp) (fun e => by cases e) (fun b113 w114 hs115 => ?_)
     have hr117 : Ap AB 3 F7 (some ⟨b113, 0, none⟩) 0 ([] : List Int) (some b113, .cells ([] : List Value).toArray 3 (0, 0)) := US rfl (by simp)
     refine D1 6 ?_
     obtain ⟨r118, hap119, h120⟩ := bind_some h111
     refine Aw.append (l' := [true, true, true, true, true, true, true, true, false, true, true, true, false, false, false, false]) (zd := true) (by kernel_rfl) (by kernel_rfl) (dst := (some 75)) (ty := 24) (g := (some (3, true))) (by kernel_rfl) (Fw (d := 72) (by kernel_rfl) rfl hb110) (x := (.tmp 73)) (y := (.tmp 74)) (t := 24) (t2 := 24) (by_ := 8) (z := (vi 0)) (a2 := ar73_0_0) (c2 := nr73_0_0) (m := r73) (T := AB) (E := 3) (a := (some ⟨b113, 0, none⟩)) (cap := 0) (l := ([] : List Int)) rfl rfl (by kernel_rfl) (by decide) (by kernel_rfl) (by kernel_rfl) rfl Ra hs115 (k := 0) rfl hr117 (SlA.rd hs115 (UF hsr73_0_0 (le87.t le108))) (r := r118) hap119 le108 (fun _ => by simp) (fun e => by cases e) (fun a121 n122 e123 w124 (hs125 : HS w0 F0 w124 F7 [e123, (sb b27 (BO x2) 82), (sb b24 (AC x1 a1_4 n1_4 a1_5 n1_5) 27), (sb b21 (Ai x0) 23)]) hr126 => ?_)
     refine D1 8 ?_
     obtain ⟨r127, hap128, h129⟩ := bind_some h120
     refine Aw.append (l' := [true, true, true, true, true, true, true, true, true, true, true, true, false, false, false, false]) (zd := true) (by kernel_rfl) (by kernel_rfl) (dst := (some 77)) (ty := 24) (g := (some (3, true))) (by kernel_rfl) (Fw (d := 72) (by kernel_rfl) rfl hb110) (x := (.tmp 75)) (y := (.tmp 76)) (t := 24) (t2 := 24) (by_ := 8) (z := (vi 0)) (a2 := ar81_0_0) (c2 := nr81_0_0) (m := r81) (T := AB) (E := 3) (a := a121) (cap := n122) (l := r118) rfl rfl (by kernel_rfl) (by decide) (by kernel_rfl) (by kernel_rfl) rfl Ra hs125 (k := 0) rfl hr126 (SlA.rd hs125 (UF hsr81_0_0 le108)) (r := r127) hap128 le108 (fun _ => by simp) (fun e => by cases e) (fun a130 n131 e132 w133 (hs134 : HS w0 F0 w133 F7 [e132, (sb b27 (BO x2) 82), (sb b24 (AC x1 a1_4 n1_4 a1_5 n1_5) 27), (sb b21 (Ai x0) 23)]) hr135 => ?_)
     refine D1 12 ?_
     obtain ⟨r136, hr137, h138⟩ := bind_some h129
     refine UO (l' := [true, true, true, true, true, true, true, true, true, true, true, true, true, false, false, false]) (zd := true) (by kernel_rfl) (by kernel_rfl) (by kernel_rfl) (dst := (some 81)) (ty := 24) (g := (some (3, true))) (by kernel_rfl) (Fw (d := 72) (by kernel_rfl) rfl hb110) (f0 := (.func 56)) (aos := #[(.tmp 78), (.tmp 80)]) (ats := #[27, 80]) (fid := 56) (first := #[]) (cap := #[]) (args := [(.agg (AC x1 a1_4 n1_4 a1_5 n1_5)), (.agg #[(vi x2.Span.Lo), (vi x2.Span.Hi)])]) rfl EQ rfl hs134 (Fj N w133 F7 hs134.pers x1 a1_4 n1_4 hb1_4 (UF hs1_4 ((((le36.t le40).trans le79).trans le87).trans le108)) a1_5 n1_5 hb1_5 (UF hs1_5 ((((le36.t le40).trans le79).trans le87).trans le108)) x2.Span _ hr137) ?_
     rintro _ F8 w140 hs141 le142 ⟨ar136_0_0, nr136_0_0, rfl, hbr136_0_0, hsr136_0_0⟩
     refine D1 13 ?_
     have hb147 := UQ (hr135.mono le142)
     obtain ⟨F9, hs144, le145, hs146⟩ := hs141.fr0 (hr135.mono le142)
     obtain ⟨r148, hr149, h150⟩ := bind_some h138
     refine UO (l' := [true, true, true, true, true, true, true, true, true, true, true, true, true, true, false, false]) (zd := true) (by kernel_rfl) (by kernel_rfl) (by kernel_rfl) (dst := (some 82)) (ty := 4) (g := (some (3, true))) (by kernel_rfl) (Fw (d := 72) (by kernel_rfl) rfl hb110) (f0 := (.func 57)) (aos := #[(.tmp 77), (.tmp 81)]) (ats := #[24, 24]) (fid := 57) (first := #[]) (cap := #[]) (args := [(.slice a130 r127.length n131), (.slice ar136_0_0 r136.length nr136_0_0)]) rfl FK rfl hs144 (Gu N w140 F9 hs144.pers r127 a130 n131 hb147 hs146 r136 ar136_0_0 nr136_0_0 hbr136_0_0 (UF hsr136_0_0 le145) _ hr149) ?_
     rintro _ F10 w152 hs153 le154 rfl
     refine Dg 14 83 4 (.bool (!r148)) 3 true 72 hb110 (fun _ hq => La (t := 4) (x := (.tmp 82)) (a := r148) rfl) <| Dt 15 84 4 _ (fun _ hq => p1 72 (.tmp 83) (.const (.bool false)) (.bool (!r148)) hb110) ?_
     obtain rfl := Aa h150
     exact UP (by kernel_rfl) ⟨F10, hs153.dr0, (((le108.t le142).trans le145).trans le154), fI⟩
    ·refine Dk [(4, 73), (5, 74), (6, 75), (7, 76), (8, 77), (9, 78), (10, 79), (11, 80), (12, 81), (13, 82), (14, 83)] 3 true 72 hb110 ?_
     refine Dt 15 84 4 _ (fun _ hq => p0 72 (.tmp 83) (.const (.bool false)) (.bool false) hb110) ?_
     obtain rfl := Aa h112
     exact UP (by kernel_rfl) ⟨F7, hs107.dr0, le108, fI⟩
   ·rintro f w91 ⟨F6, hs92, le93, ⟨_, rfl⟩⟩
    refine Ab <| Cd h101 (fun hb156 h157 => ?_) (fun hb156 h158 => ?_)
    ·refine Sq (Rg [0] ?_)
     refine Vs 1 <| Nt <| Rt <| Af ?_
     obtain rfl := Aa h157
     exact Re [(.bool false)] hs92 rfl
    ·refine Sc ?_
     refine Ab <| Sq (Rg [0, 1, 2] ?_)
     refine Ld hs92.at0 ?_
     obtain ⟨r159, hr160, h161⟩ := bind_some h158
     refine Cl' J6 hs92 (K6 N w91 F6 hs92.pers x1 a1_4 n1_4 hb1_4 (UF hs1_4 ((((le36.t le40).trans le79).trans le87).trans le93)) a1_5 n1_5 hb1_5 (UF hs1_5 ((((le36.t le40).trans le79).trans le87).trans le93)) _ hr160) ?_
     rintro _ F11 w163 hs164 le165 ⟨ar159_0_0, nr159_0_0, rfl, hbr159_0_0, hsr159_0_0⟩
     refine Vs 1 <| Nss (Rg (rG 5) ?_)
     refine Vs 1 <| Ld hs164.at0 <| Vs 1 ?_
     obtain ⟨r167, hm168, h169⟩ := bind_some h161
     refine RWP.makeSlice (dst := (some 90)) (ty := 24) (g := none) (by kernel_rfl) rfl (x := (.tmp 89)) (y := (.tmp 89)) (t := 24) (by_ := 8) (z := (vi 0)) (T := AB) (E := 3) rfl rfl (by kernel_rfl) (by decide) (by kernel_rfl) (z0 := 0) (fun _ => rfl) (by decide) hs164 hm168 (fun b170 n171 C172 w173 (hs174 : HS w0 F0 w173 F11 [(some b170, .cells C172 3 (0, 0)), (sb b24 (AC x1 a1_4 n1_4 a1_5 n1_5) 27), (sb b21 (Ai x0) 23)]) hr175 => ?_)
     refine Vs 1 <| Nss <| Sq (Rg [0] ?_)
     refine Vs 1 <| Nt ?_
     obtain ⟨o177, ho178, h179⟩ := bind_some h169
     refine UJ (fun f w => ∃ (s191 : (Int × List Int)) (F13 : Mem) (es191_1 : Option Nat × Obj), o177 = .done s191 /\ HS w0 F0 w F13 [es191_1, (sb b24 (AC x1 a1_4 n1_4 a1_5 n1_5) 27), (sb b21 (Ai x0) 23)] /\ UC F11 F13 /\ FI f [] [(3, (pt b21 0)), (4, (pt b24 0)), (7, (.bool r30)), (11, (.slice (some ⟨b170, 0, none⟩) s191.2.length n171))] /\ Ap AB 3 F13 (some ⟨b170, 0, none⟩) n171 s191.2 es191_1) ?_ ?_
     ·refine Bk ?_
      refine UB (by kernel_rfl) (fun m f w => ∃ (s180 : (Int × List Int)) (F12 : Mem) (es180_1 : Option Nat × Obj), AQ (BH N x0 x1 x2 r30 j41 r73 r81 j94 r159 r167) m s180 = some o177 /\ HS w0 F0 w F12 [es180_1, (sb b24 (AC x1 a1_4 n1_4 a1_5 n1_5) 27), (sb b21 (Ai x0) 23)] /\ UC F11 F12 /\ FI f [] [(3, (pt b21 0)), (4, (pt b24 0)), (7, (.bool r30)), (10, (.slice ar159_0_0 r159.length nr159_0_0)), (11, (.slice (some ⟨b170, 0, none⟩) s180.2.length n171)), (12, (vi s180.1))] /\ Ap AB 3 F12 (some ⟨b170, 0, none⟩) n171 s180.2 es180_1) N ⟨(0, r167), F11, (some b170, .cells C172 3 (0, 0)), ho178, hs174, (UD _), fI, hr175⟩ ?_
      rintro m200 f w181 ⟨s180, F12, es180_1, hit201, hs182, le183, ⟨_, rfl⟩, hrs180_1⟩
      obtain ⟨m202, fl203, rfl, hb204, hnx205⟩ := AH hit201
      refine Sq <| Sq (Rg (rG 4) ?_)
      refine Vs 4 <| Nt <| Cd hb204 (fun hb206 h207 => ?_) (fun hb206 h208 => ?_)
      ·refine Sc ?_
       refine Ab <| Sq <| Bk <| Sq ?_
       obtain ⟨j214, hj223, h224⟩ := bind_some h207
       refine RD 7 7 [es180_1, (sb b24 (AC x1 a1_4 n1_4 a1_5 n1_5) 27), (sb b21 (Ai x0) 23)] [] hs182 (fun f w => ∃ (F14 : Mem) (aj214_0 : UY) (nj214_0 : Nat), HS w0 F0 w F14 [es180_1, (sb b24 (AC x1 a1_4 n1_4 a1_5 n1_5) 27), (sb b21 (Ai x0) 23)] /\ UC F12 F14 /\ FI f [] [(3, (pt b21 0)), (4, (pt b24 0)), (7, (.bool r30)), (10, (.slice ar159_0_0 r159.length nr159_0_0)), (11, (.slice (some ⟨b170, 0, none⟩) s180.2.length n171)), (12, (vi s180.1)), (13, (.slice aj214_0 j214.length nj214_0))] /\ LC j214.length nj214_0 /\ SlA AB F14 aj214_0 j214) (fun wd209 hw210 => ?_) ?_
       ·refine Dl 0 (fun _ hq => (hq.1.2 1 _ _ rfl)) ?_
        refine Dv [1, 2] ?_
        obtain ⟨x225, hx226, h228⟩ := bind_some hj223
        obtain ⟨hi227, hx226'⟩ := An hx226
        obtain ⟨b229, o230, C231, E232, fz233, rfl, hF235, hE236⟩ := UK (UF hsr159_0_0 le183) hx226'
        have hc238 := hE236 _ _ hx226'
        refine Di 3 hi227 <| Dx 4 0 (fun _ hq => hq.1.1 _ _ hF235) hc238 <| D1 5 ?_
        obtain ⟨r239, hr240, h241⟩ := bind_some h228
        refine DCl Pz hw210 (QD N wd209 F12 hw210.pers x1 a1_4 n1_4 hb1_4 (UF hs1_4 ((((((le36.t le40).trans le79).trans le87).trans le93).trans le165).trans le183)) a1_5 n1_5 hb1_5 (UF hs1_5 ((((((le36.t le40).trans le79).trans le87).trans le93).trans le165).trans le183)) x225 _ hr240) ?_
        rintro _ F15 w243 hs244 le245 ⟨ar239_0_0, nr239_0_0, rfl, hbr239_0_0, hsr239_0_0⟩
        refine Dv [6] ?_
        obtain rfl := Aa h241
        exact UP (by kernel_rfl) ⟨F15, ar239_0_0, nr239_0_0, hs244, le245, fI, hbr239_0_0, hsr239_0_0⟩
       ·rintro f w211 ⟨F14, aj214_0, nj214_0, hs212, le213, ⟨_, rfl⟩, hbj214_0, hsj214_0⟩
        refine Ab <| Sq <| Sq ?_
        obtain ⟨j252, hj262, h263⟩ := bind_some h224
        refine RD 19 19 [es180_1, (sb b24 (AC x1 a1_4 n1_4 a1_5 n1_5) 27), (sb b21 (Ai x0) 23)] [] hs212 (fun f w => ∃ (F16 : Mem), HS w0 F0 w F16 [es180_1, (sb b24 (AC x1 a1_4 n1_4 a1_5 n1_5) 27), (sb b21 (Ai x0) 23)] /\ UC F14 F16 /\ FI f [] [(3, (pt b21 0)), (4, (pt b24 0)), (7, (.bool r30)), (10, (.slice ar159_0_0 r159.length nr159_0_0)), (11, (.slice (some ⟨b170, 0, none⟩) s180.2.length n171)), (12, (vi s180.1)), (13, (.slice aj214_0 j214.length nj214_0)), (121, (.bool j252))]) (fun wd247 hw248 => ?_) ?_
        ·refine Dvl [0, 1, 2, 3] (tf 4 15) ?_
         refine Sd hj262 (fun hb264 h265 => ?_) (fun hb264 h266 => ?_)
         ·refine Dkl [(4, 107), (5, 108), (6, 109)] 3 false 106 hb264 (tf 7 12) ?_
          refine Dul [(7, 110), (8, 111), (9, 112), (10, 113), (11, 114), (12, 115)] 6 true 109 (tf 13 6) <| Dul [(13, 116), (14, 117), (15, 118), (16, 119)] 6 true 109 (tf 17 2) <| Dkl [(17, 120)] 3 false 106 hb264 (tf 18 1) <| Dtl 18 121 4 _ (tf 19 0) (fun _ hq => p1 106 (.const (.bool true)) (.tmp 120) (.bool true) hb264) ?_
          obtain rfl := Aa h265
          exact UP (by kernel_rfl) ⟨F14, hw248, (UD _), fI⟩
         ·refine Dgl 4 107 3 _ (tf 5 14) 3 false 106 hb264 (fun _ hq => mv 12 (vi s180.1)) ?_
          refine Dgl 5 108 4 (.bool (decide (s180.1 > 0))) (tf 6 13) 3 false 106 hb264 (fun _ hq => Li (t := 3) (t' := 3) (x := (.tmp 107)) (y := (.const (vi 0))) (k := .i64) (a := s180.1) (b := 0) rfl rfl) <| Dgl 6 109 4 _ (tf 7 12) 3 false 106 hb264 (fun _ hq => mv 108 (.bool (decide (s180.1 > 0)))) <| Sd h266 (fun hb267 h268 => ?_) (fun hb267 h269 => ?_)
          ·refine Dgl 7 110 55 _ (tf 8 11) 6 true 109 hb267 (fun _ hq => mv 10 (.slice ar159_0_0 r159.length nr159_0_0)) ?_
           refine Dgl 8 111 3 _ (tf 9 10) 6 true 109 hb267 (fun _ hq => mv 12 (vi s180.1)) ?_
           obtain ⟨x270, hx271, h273⟩ := bind_some h268
           obtain ⟨hi272, hx271'⟩ := An hx271
           obtain ⟨b274, o275, C276, E277, fz278, rfl, hF280, hE281⟩ := UK (UF hsr159_0_0 (le183.t le213)) hx271'
           have hc283 := hE281 _ _ hx271'
           refine Dgl 9 112 0 (.pointer (some ⟨b274, (o275 + (s180.1 : Int).toNat * 1), none⟩)) (tf 10 9) 6 true 109 hb267 (fun _ hq => ix 55 110 111 b274 o275 9 1 16 hi272) <| Dgl 10 113 9 _ (tf 11 8) 6 true 109 hb267 (fun _ hq => lx 9 112 0 1 false 1 (sv x270) (hq.1.1 _ _ hF280) hc283) <| Dgl 11 114 55 _ (tf 12 7) 6 true 109 hb267 (fun _ hq => mv 10 (.slice (some ⟨b274, o275, none⟩) r159.length nr159_0_0)) <| Dgl 12 115 3 _ (tf 13 6) 6 true 109 hb267 (fun _ hq => mv 12 (vi s180.1)) <| Dgl 13 116 3 (vi (W64 (s180.1 - 1))) (tf 14 5) 6 true 109 hb267 (fun _ hq => HR (t := 3) (t' := 3) (x := (.tmp 115)) (y := (.const (vi 1))) (k := .i64) (a := s180.1) (b := 1) rfl rfl) ?_
           obtain ⟨x284, hx285, h287⟩ := bind_some h273
           obtain ⟨hi286, hx285'⟩ := An hx285
           have hc289 := hE281 _ _ hx285'
           refine Dgl 14 117 0 (.pointer (some ⟨b274, (o275 + ((W64 (s180.1 - 1)) : Int).toNat * 1), none⟩)) (tf 15 4) 6 true 109 hb267 (fun _ hq => ix 55 114 116 b274 o275 9 1 16 hi286) <| Dgl 15 118 9 _ (tf 16 3) 6 true 109 hb267 (fun _ hq => lx 9 117 0 1 false 1 (sv x284) (hq.1.1 _ _ hF280) hc289) <| Dgl 16 119 4 (.bool (Ez x270 x284 || x270 == x284)) (tf 17 2) 6 true 109 hb267 (fun _ hq => Ob (t := 9) (t' := 9) (x := (.tmp 113)) (y := (.tmp 118)) (op := .leq) (a := x270) (b := x284) (v := (Ez x270 x284 || x270 == x284)) rfl rfl rfl) <| Dgl 17 120 4 _ (tf 18 1) 3 false 106 hb264 (fun _ hq => p1 109 (.tmp 119) (.const (.bool false)) (.bool (Ez x270 x284 || x270 == x284)) hb267) <| Dtl 18 121 4 _ (tf 19 0) (fun _ hq => p0 106 (.const (.bool true)) (.tmp 120) (.bool (Ez x270 x284 || x270 == x284)) hb264) ?_
           obtain rfl := Aa h287
           exact UP (by kernel_rfl) ⟨F14, hw248, (UD _), fI⟩
          ·refine Dkl [(7, 110), (8, 111), (9, 112), (10, 113), (11, 114), (12, 115)] 6 true 109 hb267 (tf 13 6) ?_
           refine Dkl [(13, 116), (14, 117), (15, 118), (16, 119)] 6 true 109 hb267 (tf 17 2) <| Dgl 17 120 4 _ (tf 18 1) 3 false 106 hb264 (fun _ hq => p0 109 (.tmp 119) (.const (.bool false)) (.bool false) hb267) <| Dtl 18 121 4 _ (tf 19 0) (fun _ hq => p0 106 (.const (.bool true)) (.tmp 120) (.bool false) hb264) ?_
           obtain rfl := Aa h269
           exact UP (by kernel_rfl) ⟨F14, hw248, (UD _), fI⟩
        ·rintro f w249 ⟨F16, hs250, le251, ⟨_, rfl⟩⟩
         refine Ab <| Cd h263 (fun hb290 h291 => ?_) (fun hb290 h292 => ?_)
         ·refine Sq (Rg [0] ?_)
          refine Vs 1 <| Nt <| Rt <| Af <| Ax <| Af <| Af <| Ax ?_
          have hret := BW h291 hnx205
          subst hret
          refine .inr <| Af ?_
          obtain rfl := Aa h179
          exact Re [(.bool false)] hs250 rfl
         ·refine Sc ?_
          refine Ab <| Sq (Rg [0] ?_)
          refine Vs 1 <| Nt ?_
          obtain ⟨o293, ho294, h295⟩ := bind_some h292
          refine UJ (fun f w => ∃ (s309 : (Int × List Int)) (F18 : Mem) (es309_1 : Option Nat × Obj), o293 = .done s309 /\ HS w0 F0 w F18 [es309_1, (sb b24 (AC x1 a1_4 n1_4 a1_5 n1_5) 27), (sb b21 (Ai x0) 23)] /\ UC F16 F18 /\ FI f [] [(3, (pt b21 0)), (4, (pt b24 0)), (7, (.bool r30)), (10, (.slice ar159_0_0 r159.length nr159_0_0)), (11, (.slice (some ⟨b170, 0, none⟩) s309.2.length n171)), (12, (vi s180.1))] /\ Ap AB 3 F18 (some ⟨b170, 0, none⟩) n171 s309.2 es309_1) ?_ ?_
          ·refine Bk ?_
           refine UB (by kernel_rfl) (fun m f w => ∃ (s296 : (Int × List Int)) (F17 : Mem) (es296_1 : Option Nat × Obj), AQ (Bm N x0 x1 x2 r30 j41 r73 r81 j94 r159 r167 s180 j214 j252) m s296 = some o293 /\ HS w0 F0 w F17 [es296_1, (sb b24 (AC x1 a1_4 n1_4 a1_5 n1_5) 27), (sb b21 (Ai x0) 23)] /\ UC F16 F17 /\ FI f [] [(3, (pt b21 0)), (4, (pt b24 0)), (7, (.bool r30)), (10, (.slice ar159_0_0 r159.length nr159_0_0)), (11, (.slice (some ⟨b170, 0, none⟩) s296.2.length n171)), (12, (vi s180.1)), (13, (.slice aj214_0 j214.length nj214_0)), (14, (vi s296.1))] /\ Ap AB 3 F17 (some ⟨b170, 0, none⟩) n171 s296.2 es296_1) N ⟨(0, s180.2), F16, es180_1, ho294, hs250, (UD _), fI, (hrs180_1.mono (le213.t le251))⟩ ?_
           rintro m320 f w297 ⟨s296, F17, es296_1, hit321, hs298, le299, ⟨_, rfl⟩, hrs296_1⟩
           obtain ⟨m322, fl323, rfl, hb324, hnx325⟩ := AH hit321
           refine Sq <| Sq (Rg (rG 4) ?_)
           refine Vs 4 <| Nt <| Cd hb324 (fun hb326 h327 => ?_) (fun hb326 h328 => ?_)
           ·refine Sc ?_
            refine Ab <| Sq <| Bk <| Sq <| Sq (Rg (rG 14) ?_)
            obtain ⟨j332, hj343, h344⟩ := bind_some h327
            refine UI (fun f w => ∃ (F19 : Mem), HS w0 F0 w F19 [es296_1, (sb b24 (AC x1 a1_4 n1_4 a1_5 n1_5) 27), (sb b21 (Ai x0) 23)] /\ UC F17 F19 /\ FI f [] [(3, (pt b21 0)), (4, (pt b24 0)), (7, (.bool r30)), (10, (.slice ar159_0_0 r159.length nr159_0_0)), (11, (.slice (some ⟨b170, 0, none⟩) s296.2.length n171)), (12, (vi s180.1)), (13, (.slice aj214_0 j214.length nj214_0)), (14, (vi s296.1)), (141, (.bool j332))]) ?_ ?_
            ·refine Vs 2 ?_
             obtain ⟨x345, hx346, h348⟩ := bind_some hj343
             obtain ⟨hi347, hx346'⟩ := An hx346
             obtain ⟨b349, o350, C351, E352, fz353, rfl, hF355, hE356⟩ := UK (UF hsj214_0 (le251.t le299)) hx346'
             have hc358 := hE356 _ _ hx346'
             refine Ix hi347 <| Lx 0 (hs298.pers _ _ hF355) hc358 <| Vs 2 <| Sp h348 (fun hb359 h360 => ?_) (fun hb359 h361 => ?_)
             ·refine Ss hb359 7 ?_
              refine Pk1 hb359 ?_
              obtain rfl := Aa h360
              exact Uy ⟨rfl, F17, hs298, (UD _), fI⟩
             ·refine Vgs hb359 2 ?_
              obtain ⟨x362, hx363, h365⟩ := bind_some h361
              obtain ⟨hi364, hx363'⟩ := An hx363
              have hc367 := hE356 _ _ hx363'
              refine Ixg hb359 hi364 <| Lxg hb359 0 (hs298.pers _ _ hF355) hc367 <| Vgs hb359 3 <| Pk0 hb359 ?_
              obtain rfl := Aa h365
              exact Uy ⟨rfl, F17, hs298, (UD _), fI⟩
            ·rintro f w329 ⟨F19, hs330, le331, ⟨_, rfl⟩⟩
             refine Ab <| Cd h344 (fun hb368 h369 => ?_) (fun hb368 h370 => ?_)
             ·refine Sq (Rg [0] ?_)
              refine Vs 1 <| Nt <| Rt <| Af <| Ax <| Af <| Af <| Ax ?_
              have hret := BW h369 hnx325
              subst hret
              refine .inr <| Ax <| Af <| Af <| Ax ?_
              have hret := BW h295 hnx205
              subst hret
              refine .inr <| Af ?_
              obtain rfl := Aa h179
              exact Re [(.bool false)] hs330 rfl
             ·refine Sc ?_
              refine Ab <| Rg (rG 10) <| Vs 3 ?_
              obtain ⟨x371, hx372, h374⟩ := bind_some h370
              obtain ⟨hi373, hx372'⟩ := An hx372
              obtain ⟨b375, o376, C377, E378, fz379, rfl, hF381, hE382⟩ := UK (UF hsj214_0 ((le251.t le299).trans le331)) hx372'
              have hc384 := hE382 _ _ hx372'
              refine Ix hi373 <| Lx 0 (hs330.pers _ _ hF381) hc384 ?_
              obtain ⟨x385, hx386, h388⟩ := bind_some h374
              obtain ⟨hi387, hx386'⟩ := An hx386
              obtain ⟨b389, C390, ha391, rfl, hE393⟩ := Ap.open (hrs296_1.mono le331) hx386'
              cases ha391
              have hr394 := (hrs296_1.mono le331)
              have hc396 := hE393 _ _ hx386'
              refine Ix0 hi387 <| Lx 0 hs330.at0 hc396 <| Vs 1 ?_
              obtain ⟨x397, hx398, h400⟩ := bind_some h388
              obtain ⟨hi399, hx398'⟩ := An hx398
              obtain ⟨b401, C402, ha403, he404, hE405⟩ := Ap.open hr394 hx398'
              cases ha403
              cases he404
              have hc407 := hE405 _ _ hx398'
              refine Ix0 hi399 <| RWP.storeRow (ty := 0) (g := none) (by kernel_rfl) rfl (x := (.tmp 150)) (y := (.tmp 149)) (t := 3) (v := (vi (W64 (x385 + 1)))) (gg := false) (b := b170) (j := (x371 : Int).toNat) (C := C390) (T := AB) (E := 3) (u := ((W64 (x385 + 1)))) rfl rfl (by kernel_rfl) hs330 (k := 0) rfl hr394 hx398' rfl rfl (fun C408 w409 (hs410 : HS w0 F0 w409 F19 [(some b170, .cells C408 3 (0, 0)), (sb b24 (AC x1 a1_4 n1_4 a1_5 n1_5) 27), (sb b21 (Ai x0) 23)]) hr411 => ?_)
              refine Uy <| Ar <| Ab <| Rg [0, 1, 2] <| Vs 3 <| Uy ?_
              have hn412 := AM h400 hnx325
              exact ⟨m322, Nat.lt_succ_self _, ((W64 (s296.1 + 1)), (s296.2.set (x371 : Int).toNat ((W64 (x385 + 1))))), F19, (some b170, .cells C408 3 (0, 0)), hn412, hs410, (le299.t le331), (fJ ⟨rfl, rfl, rfl, rfl, (SR rfl), rfl, rfl, rfl, trivial⟩), hr411⟩
           ·refine Ex ?_
            refine Aq <| Aq <| Az rfl ?_
            have ho413 := AJ h328 hnx325
            exact .inl ⟨rfl, (s296.1, s296.2), F17, es296_1, ho413, hs298, le299, fI, hrs296_1⟩
          ·rintro f w310 ⟨s309, F18, es309_1, rfl, hs311, le312, ⟨_, rfl⟩, hrs309_1⟩
           have h414 := Bn h295
           refine Ar <| Ab <| Rg [0, 1, 2] <| Vs 3 <| Uy ?_
           have hn415 := AM h414 hnx205
           exact ⟨m202, Nat.lt_succ_self _, ((W64 (s180.1 + 1)), s309.2), F18, es309_1, hn415, hs311, (((le183.t le213).trans le251).trans le312), fI, hrs309_1⟩
      ·refine Ex ?_
       refine Aq <| Aq <| Az rfl ?_
       have ho416 := AJ h208 hnx205
       exact .inl ⟨rfl, (s180.1, s180.2), F12, es180_1, ho416, hs182, le183, fI, hrs180_1⟩
     ·rintro f w192 ⟨s191, F13, es191_1, rfl, hs193, le194, ⟨_, rfl⟩, hrs191_1⟩
      have h417 := Bn h179
      refine Ab <| Sq <| Sq (Rg [0] ?_)
      refine Vs 1 <| Nt ?_
      obtain ⟨o418, ho419, h420⟩ := bind_some h417
      refine UJ (fun f w => ∃ (s431 : Int) (F21 : Mem), o418 = .done s431 /\ HS w0 F0 w F21 [] /\ UC F13 F21 /\ FI f [] [(7, (.bool r30))]) ?_ ?_
      ·refine Bk ?_
       refine UB (by kernel_rfl) (fun m f w => ∃ (s421 : Int) (F20 : Mem), AQ (BG N x0 x1 x2 r30 j41 r73 r81 j94 r159 r167 s191) m s421 = some o418 /\ HS w0 F0 w F20 [es191_1, (sb b24 (AC x1 a1_4 n1_4 a1_5 n1_5) 27), (sb b21 (Ai x0) 23)] /\ UC F13 F20 /\ FI f [] [(3, (pt b21 0)), (4, (pt b24 0)), (7, (.bool r30)), (11, (.slice (some ⟨b170, 0, none⟩) s191.2.length n171)), (15, (vi s421))]) N ⟨0, F13, ho419, hs193, (UD _), fI⟩ ?_
       rintro m437 f w422 ⟨s421, F20, hit438, hs423, le424, ⟨_, rfl⟩⟩
       obtain ⟨m439, fl440, rfl, hb441, hnx442⟩ := AH hit438
       refine Sq <| Sq (Rg (rG 4) ?_)
       refine Vs 4 <| Nt <| Cd hb441 (fun hb443 h444 => ?_) (fun hb443 h445 => ?_)
       ·refine Sc ?_
        refine Ab <| Sq <| Bk <| Sq ?_
        obtain ⟨j451, hj460, h461⟩ := bind_some h444
        refine RD 13 13 [es191_1, (sb b24 (AC x1 a1_4 n1_4 a1_5 n1_5) 27), (sb b21 (Ai x0) 23)] [] hs423 (fun f w => ∃ (F22 : Mem), HS w0 F0 w F22 [es191_1, (sb b24 (AC x1 a1_4 n1_4 a1_5 n1_5) 27), (sb b21 (Ai x0) 23)] /\ UC F20 F22 /\ FI f [] [(3, (pt b21 0)), (4, (pt b24 0)), (7, (.bool r30)), (11, (.slice (some ⟨b170, 0, none⟩) s191.2.length n171)), (15, (vi s421)), (16, (vi j451.1)), (17, (vi j451.2))]) (fun wd446 hw447 => ?_) ?_
        ·refine Dl 0 (fun _ hq => (hq.1.2 1 _ _ rfl)) ?_
         refine Dv [1] <| Dl 2 (fun _ hq => (hq.1.2 1 _ _ rfl)) <| Dv [3] ?_
         obtain ⟨x462, hx463, h465⟩ := bind_some hj460
         obtain ⟨hi464, hx463'⟩ := An hx463
         obtain ⟨b466, o467, C468, E469, fz470, rfl, hF472, hE473⟩ := UK (UF hs1_5 (((((((le36.t le40).trans le79).trans le87).trans le93).trans le165).trans le194).trans le424)) hx463'
         have hc475 := hE473 _ _ hx463'
         refine Di 4 hi464 <| Dv [5] <| Dx 6 0 (fun _ hq => hq.1.1 _ _ hF472) hc475 <| D1 7 ?_
         obtain ⟨r476, hr477, h478⟩ := bind_some h465
         refine DCl MG hw447 (NX N wd446 F20 hw447.pers x1 a1_4 n1_4 hb1_4 (UF hs1_4 (((((((le36.t le40).trans le79).trans le87).trans le93).trans le165).trans le194).trans le424)) (some ⟨b466, o467, none⟩) n1_5 hb1_5 (UF hs1_5 (((((((le36.t le40).trans le79).trans le87).trans le93).trans le165).trans le194).trans le424)) x462.Num _ hr477) ?_
         rintro _ F23 w480 hs481 le482 rfl
         refine Dv [8, 9, 10, 11, 12] ?_
         obtain rfl := Aa h478
         exact UP (by kernel_rfl) ⟨F23, hs481, le482, fI⟩
        ·rintro f w448 ⟨F22, hs449, le450, ⟨_, rfl⟩⟩
         refine Ab <| Sq (Rg (rG 19) ?_)
         obtain ⟨j487, hj495, h496⟩ := bind_some h461
         refine UI (fun f w => ∃ (F24 : Mem), HS w0 F0 w F24 [es191_1, (sb b24 (AC x1 a1_4 n1_4 a1_5 n1_5) 27), (sb b21 (Ai x0) 23)] /\ UC F22 F24 /\ FI f [] [(3, (pt b21 0)), (4, (pt b24 0)), (7, (.bool r30)), (11, (.slice (some ⟨b170, 0, none⟩) s191.2.length n171)), (15, (vi s421)), (186, (.bool j487))]) ?_ ?_
         ·refine Vs 2 ?_
          obtain ⟨x497, hx498, h500⟩ := bind_some hj495
          obtain ⟨hi499, hx498'⟩ := An hx498
          obtain ⟨b501, C502, ha503, rfl, hE505⟩ := Ap.open (hrs191_1.mono (le424.t le450)) hx498'
          cases ha503
          have hr506 := (hrs191_1.mono (le424.t le450))
          have hc508 := hE505 _ _ hx498'
          refine Ix0 hi499 <| Lx 0 hs449.at0 hc508 <| Vs 2 <| Sp h500 (fun hb509 h510 => ?_) (fun hb509 h511 => ?_)
          ·refine Ss hb509 2 ?_
           refine Pk1 hb509 <| Vs 1 <| Ss (rfl : true = true) 4 <| Su' 3 <| Ss (rfl : true = true) 1 <| Pk1 (rfl : true = true) ?_
           obtain rfl := Aa h510
           exact Uy ⟨rfl, F22, hs449, (UD _), fI⟩
          ·refine Vgs hb509 2 ?_
           refine Pk0 hb509 <| Vs 1 <| Sp h511 (fun hb512 h513 => ?_) (fun hb512 h514 => ?_)
           ·refine Ss hb512 4 ?_
            refine Su' 3 <| Ss hb512 1 <| Pk1 hb512 ?_
            obtain rfl := Aa h513
            exact Uy ⟨rfl, F22, hs449, (UD _), fI⟩
           ·refine Lg hb512 hs449.at2 ?_
            refine Lg hb512 hs449.at1 ?_
            obtain ⟨r515, hr516, h517⟩ := bind_some h514
            refine Cg hb512 Ef hs449 (ER N w448 F22 hs449.pers (hG.mono ((((((((le36.t le40).trans le79).trans le87).trans le93).trans le165).trans le194).trans le424).trans le450)) (({ Report := x0.Report, Serial := x0.Serial, Zone := x0.Zone } : Ac)) x1 a1_4 n1_4 hb1_4 (UF hs1_4 ((((((((le36.t le40).trans le79).trans le87).trans le93).trans le165).trans le194).trans le424).trans le450)) a1_5 n1_5 hb1_5 (UF hs1_5 ((((((((le36.t le40).trans le79).trans le87).trans le93).trans le165).trans le194).trans le424).trans le450)) _ hr516) ?_
            rintro _ F25 w519 hs520 le521 rfl
            refine Vgs hb512 1 <| Sp h517 (fun hb523 h524 => ?_) (fun hb523 h525 => ?_)
            ·refine Vgs hb523 3 ?_
             refine Pg1 hb512 hb523 <| Pk0 hb512 ?_
             obtain rfl := Aa h524
             exact Uy ⟨rfl, F25, hs520, le521, fI⟩
            ·refine Ss hb523 3 ?_
             refine Pg0 hb512 hb523 <| Pk0 hb512 ?_
             obtain rfl := Aa h525
             exact Uy ⟨rfl, F25, hs520, le521, fI⟩
         ·rintro f w484 ⟨F24, hs485, le486, ⟨_, rfl⟩⟩
          refine Ab <| Cd h496 (fun hb526 h527 => ?_) (fun hb526 h528 => ?_)
          ·refine Sq (Rg [0] ?_)
           refine Vs 1 <| Nt <| Rt <| Ax <| Af <| Af <| Ax ?_
           have hret := BW h527 hnx442
           subst hret
           refine .inr <| Af ?_
           obtain rfl := Aa h420
           exact Re [(.bool false)] hs485 rfl
          ·refine Sc ?_
           refine Ar <| Ab <| Rg [0, 1, 2] <| Vs 3 <| Uy ?_
           have hn529 := AM h528 hnx442
           exact ⟨m439, Nat.lt_succ_self _, (W64 (s421 + 1)), F24, hn529, hs485, ((le424.t le450).trans le486), fI⟩
       ·refine Ex ?_
        refine Aq <| Aq <| Az rfl ?_
        have ho530 := AJ h445 hnx442
        exact .inl ⟨rfl, s421, F20, ho530, hs423.dr0.dr0.dr0, le424, fI⟩
      ·rintro f w432 ⟨s431, F21, rfl, hs433, le434, ⟨_, rfl⟩⟩
       have h531 := Bn h420
       refine Ab <| Sq (Rg [0, 1] ?_)
       refine Vs 2 <| Nt <| Rt ?_
       obtain rfl := Aa h531
       exact Re [(.bool r30)] hs433 rfl
theorem Kl : ∀ {l m : List Int}, l.Pairwise (· < ·) -> m.Pairwise (· < ·) -> (∀ x, x ∈ l ↔ x ∈ m) -> l = m
 | [], [], _, _, _ => rfl
 | [], b :: m, _, _, h => absurd ((h b).2 (by simp)) (by simp)
 | a :: l, [], _, _, h => absurd ((h a).1 (by simp)) (by simp)
 | a :: l, b :: m, hl, hm, h => by
  rw [List.pairwise_cons] at hl hm
  have hab : a = b := by
   have h1 := (h a).1 (by simp)
   have h2 := (h b).2 (by simp)
   rcases List.mem_cons.1 h1 with e | h1
   ·exact e
   ·rcases List.mem_cons.1 h2 with e | h2
    ·exact e.symm
    ·have := hm.1 a h1
     have := hl.1 b h2
     omega
  subst hab
  congr 1
  refine Kl hl.2 hm.2 fun x => ⟨fun hx => ?_, fun hx => ?_⟩
  ·rcases List.mem_cons.1 ((h x).1 (by simp [hx])) with e | h'
   ·subst e; exact absurd (hl.1 x hx) (by omega)
   ·exact h'
  ·rcases List.mem_cons.1 ((h x).2 (by simp [hx])) with e | h'
   ·subst e; exact absurd (hm.1 x hx) (by omega)
   ·exact h'
theorem CS {p : Line -> Bool} {l : List Line} {t : Int} : t ∈ Cv p l ↔ ∃ i, ∃ h : i < l.length, t = (i : Int) /\ p l[i] = true := by
 unfold Cv
 rw [List.mem_map]
 constructor
 ·rintro ⟨i, hi, rfl⟩
  rw [List.mem_filter, List.mem_range] at hi
  refine ⟨i, hi.1, rfl, ?_⟩
  have := hi.2
  rwa [List.getElem?_eq_getElem hi.1] at this
 ·rintro ⟨i, hi, rfl, hp⟩
  refine ⟨i, ?_, rfl⟩
  rw [List.mem_filter, List.mem_range]
  refine ⟨hi, ?_⟩
  rw [List.getElem?_eq_getElem hi]
  exact hp
theorem HO (p : Line -> Bool) (l : List Line) : (Cv p l).Pairwise (· < ·) := by
 unfold Cv
 rw [List.pairwise_map]
 exact (List.pairwise_lt_range.filter _).imp (fun h => by omega)
theorem VL.step {o : Ac} {l : Log} (h : VL o l) {i : Nat} (hi : i + 1 < l.Lines.length) : l.Lines[i].Num < l.Lines[i + 1].Num /\ l.Lines[i].Minute <= l.Lines[i + 1].Minute := by
 have := h.ok (i + 1) hi
 unfold Oh at this
 rw [List.getElem?_eq_getElem hi] at this
 simp only [Nat.add_sub_cancel, Bool.and_eq_true, Bool.or_eq_true, decide_eq_true_eq] at this
 rw [List.getElem?_eq_getElem (show i < l.Lines.length by omega)] at this
 rcases this.2 with h' | h'
 ·omega
 ·simpa using h'
theorem VL.up {o : Ac} {l : Log} (h : VL o l) {i : Nat} : ∀ {j : Nat} (hj : j < l.Lines.length) (hij : i < j), l.Lines[i].Num < l.Lines[j].Num /\ l.Lines[i].Minute <= l.Lines[j].Minute := by
 intro j
 induction j with
 | zero => intro _ h; omega
 | succ j ih =>
  intro hj hij
  have h1 := h.step hj
  rcases Nat.lt_or_ge i j with h2 | h2
  ·have := ih (by omega) h2
   exact ⟨by omega, by omega⟩
  ·have : i = j := by omega
   subst this; exact h1
theorem S3 {o : Ac} {l : Log} (h : VL o l) (a b c : Int) (h1 : a - 1 <= b) (h2 : b <= c) : OL l ⟨a, b⟩ ++ OL l ⟨b + 1, c⟩ = OL l ⟨a, c⟩ := by
 unfold OL
 refine Kl ?_ (HO _ _) fun t => ?_
 ·rw [List.pairwise_append]
  refine ⟨HO _ _, HO _ _, fun x hx y hy => ?_⟩
  obtain ⟨i, hi, rfl, p1⟩ := CS.1 hx
  obtain ⟨j, hj, rfl, p2⟩ := CS.1 hy
  simp only [Bool.and_eq_true, decide_eq_true_eq] at p1 p2
  rcases Nat.lt_or_ge i j with h3 | h3
  ·omega
  ·exfalso
   rcases Nat.lt_or_ge j i with h4 | h4
   ·have := (h.up hi h4).2
    omega
   ·have : i = j := by omega
    subst this; omega
 ·rw [List.mem_append, CS, CS, CS]
  simp only [Bool.and_eq_true, decide_eq_true_eq]
  constructor
  ·rintro (⟨i, hi, e, p⟩ | ⟨i, hi, e, p⟩) <;> exact ⟨i, hi, e, by omega, by omega⟩
  ·rintro ⟨i, hi, e, p1, p2⟩
   rcases Int.le_total l.Lines[i].Minute b with h3 | h3
   ·exact .inl ⟨i, hi, e, p1, h3⟩
   ·by_cases h4 : l.Lines[i].Minute = b
    ·exact .inl ⟨i, hi, e, p1, by omega⟩
    ·exact .inr ⟨i, hi, e, by omega, p2⟩
def cn (c : Nat -> Int) (n : Nat) : List Int := (List.range n).map c
theorem NR (c : Nat -> Int) (n : Nat) : (cn c n).length = n := by simp [cn]
theorem Tj {c : Nat -> Int} {n i : Nat} (h : i < n) : idx (cn c n) (i : Int) = some (c i) := by
 rw [Cf (by rw [NR]; exact h)]
 simp [cn]
theorem TR (c : Nat -> Int) (n i : Nat) (v : Int) : (cn c n).set i v = cn (fun j => if j = i then v else c j) n := by
 apply List.ext_getElem
 ·simp [cn]
 ·intro j h1 h2
  simp only [cn, List.getElem_set, List.getElem_map, List.getElem_range]
  by_cases h : i = j
  ·rw [if_pos h, if_pos h.symm]
  ·rw [if_neg h, if_neg (fun e => h e.symm)]
theorem NS {c d : Nat -> Int} {n : Nat} (h : ∀ i, i < n -> c i = d i) : cn c n = cn d n := by
 unfold cn
 apply List.map_congr_left
 intro i hi
 exact h i (List.mem_range.1 hi)
theorem TS (n : Nat) : List.replicate n (0 : Int) = cn (fun _ => 0) n := by
 unfold cn
 apply List.ext_getElem <;> simp
def Il (l : List Line) (s : List UX) (i : Nat) : Int := match l[i]? with
 | some x => if x.Call ∈ s then 1 else 0
 | none => 0
section
variable {N : Nat}
theorem RC (l : Log) (hl : l.Lines.length <= 800) (hN : 4294967300 < N) (p : Line -> Bool) (c : Nat -> Int) (hc : ∀ i, c i = 0 \/ c i = 1) {x0 : Ac} {x2 : AR} {a b : Bool} {d e : List Int} {f : Bool} {g : List UX} {h : List Int} {s : Int × List Int} {j : Bool} :
  AQ (Bm N x0 l x2 a b d e f g h s (Cv p l.Lines) j) N (0, cn c l.Lines.length) = some (.done (((Cv p l.Lines).length : Int), cn (fun i => c i + if (i : Int) ∈ Cv p l.Lines then 1 else 0) l.Lines.length)) := by
 have hw := HO p l.Lines
 have hm : ∀ t, t ∈ Cv p l.Lines -> ∃ i, i < l.Lines.length /\ t = (i : Int) := fun t ht => by
  obtain ⟨i, hi, e, _⟩ := CS.1 ht
  exact ⟨i, hi, e⟩
 have hwl : (Cv p l.Lines).length <= l.Lines.length := by
  have := He p l.Lines l.Lines.length; unfold EY at this; unfold Cv; exact this
 generalize Cv p l.Lines = js at *
 have := Er (N := N) (body := Bm N x0 l x2 a b d e f g h s js j) (fun k => ((k : Int), cn (fun i => c i + if (i : Int) ∈ js.take k then 1 else 0) l.Lines.length)) (o := .done ((js.length : Int), cn (fun i => c i + if (i : Int) ∈ js then 1 else 0) l.Lines.length)) js.length (fun k hk => by
  unfold Bm
  simp only
  obtain ⟨t, ht, et⟩ := hm js[k] (List.getElem_mem hk)
  rw [Ec hk, cond_true, Cf hk, et]
  simp only [Option.bind_some]
  rw [decide_eq_false (show ¬ (t : Int) < 0 by omega), cond_false, NR, decide_eq_false (show ¬ (t : Int) >= (l.Lines.length : Int) by omega)]
  simp only [Option.bind_some, cond_false]
  rw [Tj ht]
  simp only [Option.bind_some, Int.toNat_natCast]
  rw [TR, IC k (by omega)]
  have hnt : (t : Int) ∉ js.take k := fun hm' => by
   rw [List.mem_take_iff_getElem] at hm'
   obtain ⟨q, hq, e1⟩ := hm'
   have := List.pairwise_iff_getElem.1 hw q k (by omega) hk (by omega)
   omega
  rw [if_neg hnt]
  congr 2
  congr 1
  apply NS
  intro i hi
  by_cases hit : i = t
  ·subst hit
   rw [if_pos rfl, if_pos (by rw [List.take_add_one, List.getElem?_eq_getElem hk, et]; simp)]
   rcases hc i with h' | h' <;> rw [h'] <;> decide
  ·rw [if_neg hit]
   congr 1
   have : ((i : Int) ∈ js.take (k + 1)) ↔ (i : Int) ∈ js.take k := by
    rw [List.take_add_one, List.getElem?_eq_getElem hk, et, List.mem_append]
    simp only [Option.toList_some, List.mem_singleton]
    constructor
    ·rintro (h' | h')
     ·exact h'
     ·omega
    ·exact .inl
   by_cases h' : (i : Int) ∈ js.take k
   ·rw [if_pos h', if_pos (this.2 h')]
   ·rw [if_neg h', if_neg (fun q => h' (this.1 q))]) (by
  unfold Bm
  simp only
  rw [C8, cond_false, List.take_length]) (fun _ h => by cases h) (by omega)
 rw [show ((0 : Int), cn c l.Lines.length) = (((0 : Nat) : Int), cn (fun i => c i + if (i : Int) ∈ js.take 0 then 1 else 0) l.Lines.length) by simp]
 exact this
theorem Qx (l : Log) (hl : l.Lines.length <= 800) (hN : 4294967300 < N) {x0 : Ac} {x2 : AR} {a b : Bool} {d e : List Int} {f : Bool} {h : List Int} :
  AQ (BH N x0 l x2 a b d e f (stS l.Lines) h) N (0, List.replicate l.Lines.length 0) = some (.done (((stS l.Lines).length : Int), cn (fun _ => 1) l.Lines.length)) := by
 have hs := O1 l.Lines
 have hsl := Sa l.Lines
 have hsm : ∀ c, c ∈ stS l.Lines ↔ ∃ x, x ∈ l.Lines /\ x.Call = c := fun c => R9
 generalize stS l.Lines = s at *
 have := Er (N := N) (body := BH N x0 l x2 a b d e f s h) (fun k => ((k : Int), cn (Il l.Lines (s.take k)) l.Lines.length)) (o := .done ((s.length : Int), cn (fun _ => 1) l.Lines.length)) s.length (fun k hk => by
  unfold BH
  simp only
  rw [Ec hk, cond_true, Cf hk]
  simp only [Option.bind_some]
  rw [Uo _ _ (by omega) hN]
  simp only [Option.bind_some]
  have hne : ofS l s[k] ≠ [] := by
   obtain ⟨x, hx, hxc⟩ := (hsm s[k]).1 (List.getElem_mem hk)
   obtain ⟨i, hi, rfl⟩ := List.getElem_of_mem hx
   intro e
   have : (i : Int) ∈ ofS l s[k] := by
    unfold ofS
    rw [CS]
    exact ⟨i, hi, rfl, by simpa using hxc⟩
   rw [e] at this
   cases this
  rw [show (((ofS l s[k]).length : Int) == 0) = false by
   rw [beq_eq_false_iff_ne]
   intro e
   exact hne (List.length_eq_zero_iff.1 (by omega)), cond_false]
  have hj : (bif decide ((k : Int) > 0) then (idx s (W64 ((k : Int) - 1))).bind fun x284 => some (Ez s[k] x284 || s[k] == x284) else some false) = some false := by
   by_cases h0 : k = 0
   ·subst h0; rfl
   ·rw [decide_eq_true (show (k : Int) > 0 by omega), cond_true, Tm k (by omega) (by omega), Cf (by omega), Option.bind_some, TZ]
    have h1 : s[k - 1] < s[k] := List.pairwise_iff_getElem.1 hs _ _ (by omega) hk (by omega)
    rw [decide_eq_false (fun h2 => h2 h1)]
  rw [hj]
  simp only [Option.bind_some, cond_false]
  have hi := RC (N := N) l hl hN (fun x => decide (x.Call = s[k])) (Il l.Lines (s.take k)) (fun i => by
   unfold Il
   split
   ·split
    ·exact .inr rfl
    ·exact .inl rfl
   ·exact .inl rfl) (x0 := x0) (x2 := x2) (a := a) (b := b) (d := d) (e := e) (f := f) (g := s) (h := h) (s := ((k : Int), cn (Il l.Lines (s.take k)) l.Lines.length)) (j := false)
  rw [show AQ (Bm N x0 l x2 a b d e f s h ((k : Int), cn (Il l.Lines (s.take k)) l.Lines.length) (ofS l s[k]) false) N (0, cn (Il l.Lines (s.take k)) l.Lines.length) = _ from hi, IC k (by omega)]
  show some (Ba.next _) = some (Ba.next _)
  congr 2
  congr 1
  apply NS
  intro i hi
  have hmi : ((i : Int) ∈ Cv (fun x => decide (x.Call = s[k])) l.Lines) ↔ l.Lines[i].Call = s[k] := by
   rw [CS]
   constructor
   ·rintro ⟨q, hq, e1, e2⟩
    have : i = q := by omega
    subst this
    simpa using e2
   ·intro e1
    exact ⟨i, hi, rfl, by simpa using e1⟩
  have hnk : s[k] ∉ s.take k := fun hm' => by
   rw [List.mem_take_iff_getElem] at hm'
   obtain ⟨q, hq, e1⟩ := hm'
   have := List.pairwise_iff_getElem.1 hs q k (by omega) hk (by omega)
   exact T5 this e1
  unfold Il
  rw [List.getElem?_eq_getElem hi]
  simp only
  rw [List.take_add_one, List.getElem?_eq_getElem hk]
  simp only [Option.toList_some, List.mem_append, List.mem_singleton, hmi]
  by_cases h1 : l.Lines[i].Call = s[k]
  ·have h2 : l.Lines[i].Call ∉ s.take k := by rw [h1]; exact hnk
   rw [if_neg h2, if_pos h1, if_pos (Or.inr h1)]; rfl
  ·by_cases h2 : l.Lines[i].Call ∈ s.take k
   ·rw [if_neg h1, if_pos h2, if_pos (Or.inl h2)]; rfl
   ·rw [if_neg h1, if_neg h2, if_neg (by rintro (h' | h'); exact h2 h'; exact h1 h')]; rfl) (by
  unfold BH
  simp only
  rw [C8, cond_false, List.take_length]
  congr 2
  congr 1
  apply NS
  intro i hi
  unfold Il
  rw [List.getElem?_eq_getElem hi]
  simp only
  rw [if_pos ((hsm _).2 ⟨_, List.getElem_mem hi, rfl⟩)]) (fun _ h => by cases h) (by omega)
 rw [show ((0 : Int), List.replicate l.Lines.length (0 : Int)) = (((0 : Nat) : Int), cn (Il l.Lines (s.take 0)) l.Lines.length) by
  rw [TS]
  congr 1
  apply NS
  intro i hi
  unfold Il
  rw [List.getElem?_eq_getElem hi]
  simp]
 exact this
theorem Qy (o : Ac) (l : Log) (hf : S6 l) (hl : l.Lines.length <= 800) (hN : 4294967300 < N) {x0 : Ac} (hx0 : ({ Report := x0.Report, Serial := x0.Serial, Zone := x0.Zone } : Ac) = o) {x2 : AR} {a b : Bool} {d e : List Int} {f : Bool} {g : List UX} {h : List Int} {q : Int} :
  AQ (BG N x0 l x2 a b d e f g h (q, cn (fun _ => 1) l.Lines.length)) N 0 = some (.done (l.Lines.length : Int)) := by
 have := Er (N := N) (body := BG N x0 l x2 a b d e f g h (q, cn (fun _ => 1) l.Lines.length)) (fun k => (k : Int)) (o := .done (l.Lines.length : Int)) l.Lines.length (fun k hk => by
  unfold BG
  simp only
  rw [NR, Ec hk, cond_true, Cf hk]
  simp only [Option.bind_some]
  rw [SP _ _ (by omega) hN, Tj hk, hx0, Rl _ _ hf hN]
  simp only [Option.bind_some]
  have key : (Rx l l.Lines[k].Num).2 = 0 /\ (OZ o l = true -> (Rx l l.Lines[k].Num).1 = (k : Int)) := by
   unfold Rx
   cases hfi : (List.range l.Lines.length).find? fun i => match l.Lines[i]? with | some x => decide (x.Num = l.Lines[k].Num) | none => false with
   | none => exact absurd rfl (M6 hfi k hk)
   | some t =>
    obtain ⟨ht, h1, h2⟩ := M5 hfi
    refine ⟨rfl, fun hv => ?_⟩
    have V := RN.1 (show (chk o l).1 = 0 by unfold OZ at hv; rwa [beq_iff_eq] at hv)
    show (t : Int) = (k : Int)
    rcases Nat.lt_trichotomy t k with h3 | h3 | h3
    ·have := (V.up hk h3).1; omega
    ·omega
    ·exact absurd rfl (h2 k hk h3)
  rw [key.1]
  simp only [bne_self_eq_false, cond_false]
  cases hv : OZ o l with
  | false => simp only [cond_false, Option.bind_some]; rw [IC k (by omega)]
  | true => simp only [cond_true]; rw [key.2 hv]; simp only [bne_self_eq_false, Option.bind_some, cond_false]; rw [IC k (by omega)]) (by
  unfold BG
  simp only
  rw [NR, C8, cond_false]) (fun _ h => by cases h) (by omega)
 exact this
theorem Tu {n : Nat} (h : n < 4294967296) : mk0 (0 : Int) (n : Int) = some (List.replicate n 0) := by
 unfold mk0
 rw [if_pos ⟨by omega, by omega⟩, Int.toNat_natCast]
theorem Oz (o : Ac) (l : Log) (x : AR) (hlo : x.Span.Lo <= 9223372036854775807) (hN : 4294967300 < N) : DC N o l x = some true := by
 unfold DC
 rw [show Hs N = some true from rfl, Option.bind_some]
 obtain ⟨b, hb, hfew⟩ := TJ l hN
 rw [hb, Option.bind_some]
 cases b with
 | false => rfl
 | true =>
  have F := hfew rfl
  have hl := F.n
  rw [Bool.not_true, cond_false]
  by_cases h1 : x.Span.Lo < -1000000
  ·rw [decide_eq_true h1]; rfl
  rw [decide_eq_false h1, cond_false]
  by_cases h2 : x.Span.Hi > 1000000
  ·rw [decide_eq_true h2]; rfl
  rw [decide_eq_false h2, cond_false]
  rw [D7 (n := x.Span.Lo - 1) (by omega) (by omega)]
  by_cases h3 : x.Num < x.Span.Lo - 1
  ·rw [decide_eq_true h3]; rfl
  rw [decide_eq_false h3, cond_false]
  by_cases h4 : x.Num > x.Span.Hi
  ·rw [decide_eq_true h4]; rfl
  rw [decide_eq_false h4, Option.bind_some, cond_false, D7 (n := x.Num + 1) (by omega) (by omega)]
  have w1 : ∀ p, (Cv p l.Lines).length <= 800 := fun p => by have := He p l.Lines l.Lines.length; unfold EY at this; unfold Cv; omega
  have w2 : ∀ s, (OL l s).length <= 800 := fun s => w1 _
  rw [Rn _ _ (by omega) hN, Rn _ _ (by omega) hN]
  simp only [Option.bind_some]
  rw [Rl _ _ F.fit hN]
  simp only [Option.bind_some]
  have hj : (bif OZ ⟨o.Report, o.Serial, o.Zone⟩ l then (CC ([] : List Int) (OL l ⟨x.Span.Lo, x.Num⟩)).bind fun r118 => (CC r118 (OL l ⟨x.Num + 1, x.Span.Hi⟩)).bind fun r127 => (Cy N l x.Span).bind fun r136 => (Ci N r127 r136).bind fun r148 => some (!r148) else some false) = some false := by
   cases hv : OZ ⟨o.Report, o.Serial, o.Zone⟩ l with
   | false => rfl
   | true =>
    have V := RN.1 (show (chk ⟨o.Report, o.Serial, o.Zone⟩ l).1 = 0 by unfold OZ at hv; rwa [beq_iff_eq] at hv)
    have a1 := w2 ⟨x.Span.Lo, x.Num⟩
    have a2 := w2 ⟨x.Num + 1, x.Span.Hi⟩
    rw [cond_true, OQ (by simp; omega), Option.bind_some, OQ (by simp; omega), Option.bind_some, Rn _ _ (by omega) hN, Option.bind_some, List.nil_append, S3 V _ _ _ (by omega) (by omega)]
    have a3 := w2 x.Span
    rw [show (⟨x.Span.Lo, x.Span.Hi⟩ : Span) = x.Span from rfl, Su _ _ (by omega) (by omega)]
    simp
  rw [hj]
  simp only [Option.bind_some, cond_false]
  rw [Pn _ (by omega) hN, Option.bind_some, Tu (n := l.Lines.length) (by omega), Option.bind_some]
  rw [Qx l hl hN]
  simp only [Option.bind_some, Ba.k]
  rw [Qy ⟨o.Report, o.Serial, o.Zone⟩ l F.fit hl hN rfl]
  rfl
end
theorem Qw (x0 : Ac) (x1 : Log) (x2 : AR) {P Q : Prop} (_ : P) (_ : Q) (h : FA x2) : DC 9223372036854775808 x0 x1 x2 = some true := Oz x0 x1 x2 h.2.2.1.2 (by decide)
end Go.Proofs.YthljkpeimofbbaaGreatDoor
