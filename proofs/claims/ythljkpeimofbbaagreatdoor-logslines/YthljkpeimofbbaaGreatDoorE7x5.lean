/- Lemmas of the claim LogsLines, printed by a program of the claimant and by hand. No statement of the seat is proved here. -/
import Derived.Test.YthljkpeimofbbaaGreatDoorE7x4
set_option linter.unusedVariables false
set_option linter.unusedSimpArgs false
set_option linter.unusedSectionVars false
set_option maxHeartbeats 4000000
set_option maxRecDepth 100000
namespace Go.Proofs.YthljkpeimofbbaaGreatDoor
def Fe (N : Nat) (x0 : Ac) (x1 : Log) (x2 : (List Fix)) (r30 : (Int × Int)) (j47 : (List Int × List Line)) : (List Fix × Int × Bool × Bool × Bool × T2 × Int × Int × Int × List Int × List Line) -> Option (BE (Log × (List Fix) × Int × Int) (List Fix × Int × Bool × Bool × Bool × T2 × Int × Int × Int × List Int × List Line)) := fun s180 =>
 (bif (decide (s180.2.1 < (x2.length : Int))) then ((idx x2 s180.2.1).bind fun x213 => (bif (x213.Kind == 1) then ((EA N ({ o_ := ({ Report := s180.2.2.1, Serial := s180.2.2.2.1, Zone := s180.2.2.2.2.1 } : Ac), l_ := ({ Call := s180.2.2.2.2.2.1, Category := s180.2.2.2.2.2.2.1, Power := s180.2.2.2.2.2.2.2.1, Claimed := s180.2.2.2.2.2.2.2.2.1, Jumps := s180.2.2.2.2.2.2.2.2.2.1, Lines := s180.2.2.2.2.2.2.2.2.2.2 } : Log) } : AZ) x213).bind fun r236 => (bif (!r236.2.2) then none else ((DC s180.1 [r236.2.1]).bind fun r256 => some (.next (r256, (W64 (s180.2.1 + 1)), r236.1.o_.Report, r236.1.o_.Serial, r236.1.o_.Zone, r236.1.l_.Call, r236.1.l_.Category, r236.1.l_.Power, r236.1.l_.Claimed, r236.1.l_.Jumps, r236.1.l_.Lines))))) else none)) else some (.done (s180.1, s180.2.1, s180.2.2.1, s180.2.2.2.1, s180.2.2.2.2.1, s180.2.2.2.2.2.1, s180.2.2.2.2.2.2.1, s180.2.2.2.2.2.2.2.1, s180.2.2.2.2.2.2.2.2.1, s180.2.2.2.2.2.2.2.2.2.1, s180.2.2.2.2.2.2.2.2.2.2)))
def G5 (N : Nat) (x0 : Ac) (x1 : Log) (x2 : (List Fix)) : Option (Log × (List Fix) × Int × Int) :=
 ((Ge N ({ Report := x0.Report, Serial := x0.Serial, Zone := x0.Zone } : Ac) x1).bind fun r30 => (bif (r30.1 != 0) then none else (((Eg N x1.Jumps).bind fun r55 => ((Ce N x1.Lines).bind fun r73 => some (r55, r73))).bind fun j47 => ((A6 (Fe N x0 x1 x2 r30 j47) N (([] : List Fix), 0, x0.Report, x0.Serial, x0.Zone, x1.Call, x1.Category, x1.Power, x1.Claimed, j47.1, j47.2)).bind fun o => o.k (fun r => some r) (fun s194 => (((H7 N ({ Report := x0.Report, Serial := x0.Serial, Zone := x0.Zone } : Ac) ({ Call := s194.2.2.2.2.2.1, Category := s194.2.2.2.2.2.2.1, Power := s194.2.2.2.2.2.2.2.1, Claimed := s194.2.2.2.2.2.2.2.2.1, Jumps := s194.2.2.2.2.2.2.2.2.2.1, Lines := s194.2.2.2.2.2.2.2.2.2.2 } : Log)).bind fun r283 => some (!r283)).bind fun j274 => (bif j274 then none else some (({ Call := s194.2.2.2.2.2.1, Category := s194.2.2.2.2.2.2.1, Power := s194.2.2.2.2.2.2.2.1, Claimed := s194.2.2.2.2.2.2.2.2.1, Jumps := s194.2.2.2.2.2.2.2.2.2.1, Lines := s194.2.2.2.2.2.2.2.2.2.2 } : Log), s194.1, 0, 0))))))))
theorem Ji : Ag Tryz.prog 120 := fun _ _ => by kernel_rfl
theorem JV (N : Nat) (w0 : World) (F0 : Mem) (hF : T4 w0 F0) (hG : Bl F0) (x0 : Ac) (x1 : Log) (a1_4 : T3) (n1_4 : Nat) (hb1_4 : LC x1.Jumps.length n1_4) (hs1_4 : SlA AG F0 a1_4 x1.Jumps) (a1_5 : T3) (n1_5 : Nat) (hb1_5 : LC x1.Lines.length n1_5) (hs1_5 : SlA AD F0 a1_5 x1.Lines) (x2 : (List Fix)) (a2_0 : T3) (n2_0 : Nat) (hb2_0 : LC x2.length n2_0) (hs2_0 : SlA IQ F0 a2_0 x2) (r : (Log × (List Fix) × Int × Int)) (h : G5 N x0 x1 x2 = some r) :
  Calls Tryz.prog 120 ([(.agg (Ai x0)), (.agg (AK x1 a1_4 n1_4 a1_5 n1_5)), (.slice a2_0 x2.length n2_0)] : List Value).toArray w0 (L4 w0 F0 fun F' v L' => ∃ (aq0_4 : T3) (nq0_4 : Nat) (aq0_5 : T3) (nq0_5 : Nat) (eq0_5 : Option Nat × Obj) (aq1_0 : T3) (nq1_0 : Nat) (eq1_0 : Option Nat × Obj), v = (.tuple #[(.agg (AK r.1 aq0_4 nq0_4 aq0_5 nq0_5)), (.slice aq1_0 r.2.1.length nq1_0), (vi r.2.2.1), (vi r.2.2.2)]) /\ L' = [eq0_5, eq1_0] /\ LC r.1.Jumps.length nq0_4 /\ SlA AG F' aq0_4 r.1.Jumps /\ Ar AD 34 F' aq0_5 nq0_5 r.1.Lines eq0_5 /\ Ar IQ 64 F' aq1_0 nq1_0 r.2.1 eq1_0) := by
 have hs0 := TJ hF
 refine Go 99 Tryz.func120 <| Sq (Rg (rG 6) ?_)
 refine Bx' 23 (Ai x0) hs0 (fun b21 w22 hs23 => ?_)
 refine Bx' 27 (AK x1 a1_4 n1_4 a1_5 n1_5) hs23 (fun b24 w25 hs26 => ?_)
 refine Al' 27 #[(sv (([] : T2))), (vi 0), (vi 0), (vi 0), (.slice none ([] : List Int).length 0), (.slice none ([] : List Line).length 0)] hs26 (fun b27 w28 hs29 => ?_)
 refine Vs 3 <| Nss <| Sq (Rg (rG 8) ?_)
 refine Ld hs29.at2 <| Ld hs29.at1 ?_
 obtain ⟨r30, hr31, h32⟩ := bind_some h
 refine Cl' Fu hs29 (Gr N w28 F0 hs29.pers hG (({ Report := x0.Report, Serial := x0.Serial, Zone := x0.Zone } : Ac)) x1 a1_4 n1_4 hb1_4 hs1_4 a1_5 n1_5 hb1_5 hs1_5 _ hr31) ?_
 rintro _ F1 w34 hs35 le36 rfl
 refine Vs 5 <| Nss (Rg [0, 1] ?_)
 refine Vs 2 <| Nt <| Cd h32 (fun hb38 h39 => ?_) (fun hb38 h40 => ?_)
 ·cases h39
 ·refine Sc ?_
  refine Ab <| Sq ?_
  obtain ⟨j47, hj53, h54⟩ := bind_some h40
  refine RD 9 10 [(sb b27 #[(sv (([] : T2))), (vi 0), (vi 0), (vi 0), (.slice none ([] : List Int).length 0), (.slice none ([] : List Line).length 0)] 27), (sb b21 (Ai x0) 23)] [] hs35 (fun f w => ∃ (F2 : Mem) (aj47_0 : T3) (nj47_0 : Nat) (aj47_1 : T3) (nj47_1 : Nat) (ej47_1 : Option Nat × Obj), HS w0 F0 w F2 [ej47_1, (sb b27 #[(sv (([] : T2))), (vi 0), (vi 0), (vi 0), (.slice none ([] : List Int).length 0), (.slice none ([] : List Line).length 0)] 27), (sb b24 #[(sv x1.Call), (vi x1.Category), (vi x1.Power), (vi x1.Claimed), (.slice aj47_0 j47.1.length nj47_0), (.slice aj47_1 j47.2.length nj47_1)] 27), (sb b21 (Ai x0) 23)] /\ TH F1 F2 /\ FI f [] [(2, (.slice a2_0 x2.length n2_0)), (3, (pt b21 0)), (4, (pt b24 0)), (6, (pt b27 0))] /\ LC j47.1.length nj47_0 /\ SlA AG F2 aj47_0 j47.1 /\ Ar AD 34 F2 aj47_1 nj47_1 j47.2 ej47_1) (fun wd41 hw42 => ?_) ?_
  ·refine Dv [0, 3] ?_
   refine TQ (i := 1) (j := 4) (by kernel_rfl) ?_ ?_
   ·refine TR (l' := [true, true, false, true, false, false, false, false, false, false]) (zd := false) (by kernel_rfl) (by kernel_rfl) (dst := (some 32)) (ty := 24) (g := none) (by kernel_rfl) rfl (Bt (t := 24) (x := (.tmp 31)) (b := b24) (o := 4) (g := false) (s := 1) (C := (AK x1 a1_4 n1_4 a1_5 n1_5)) (v := (.slice a1_4 x1.Jumps.length n1_4)) rfl (by kernel_rfl) hw42.at1 rfl rfl rfl) (A8 hw42 (TI _) (by simp) (fun _ => by simp)) ?_
    refine TQ (i := 2) (j := 4) (by kernel_rfl) ?_ ?_
    ·obtain ⟨r55, hr56, h57⟩ := bind_some hj53
     refine Av.callO (l' := [true, true, true, true, false, false, false, false, false, false]) (zd := false) (by kernel_rfl) (by kernel_rfl) (by kernel_rfl) (dst := (some 33)) (ty := 24) (g := none) (by kernel_rfl) rfl (f0 := (.func 176)) (aos := #[(.tmp 32)]) (ats := #[24]) (fid := 176) (first := #[]) (cap := #[]) (args := [(.slice a1_4 x1.Jumps.length n1_4)]) rfl Ci rfl hw42 (Cw N wd41 F1 hw42.pers x1.Jumps a1_4 n1_4 hb1_4 (TK hs1_4 le36) _ hr56) ?_
     rintro _ F3 w59 _ hs60 le61 ⟨a63, n64, e65, rfl, rfl, hr66⟩
     have hs68 : HS w0 F0 w59 F3 [e65, (sb b27 #[(sv (([] : T2))), (vi 0), (vi 0), (vi 0), (.slice none ([] : List Int).length 0), (.slice none ([] : List Line).length 0)] 27), (sb b24 (AK x1 a1_4 n1_4 a1_5 n1_5) 27), (sb b21 (Ai x0) 23)] := hs60
     have hb72 := TV hr66
     obtain ⟨F4, hs69, le70, hs71⟩ := hs68.fr0 hr66
     refine D1 4 <| TR (l' := [true, true, true, true, true, false, false, false, false, false]) (zd := false) (by kernel_rfl) (by kernel_rfl) (dst := (some 35)) (ty := 25) (g := none) (by kernel_rfl) rfl (Bt (t := 25) (x := (.tmp 34)) (b := b24) (o := 5) (g := false) (s := 1) (C := (AK x1 a1_4 n1_4 a1_5 n1_5)) (v := (.slice a1_5 x1.Lines.length n1_5)) rfl (by kernel_rfl) hs69.at1 rfl rfl rfl) (A8 hs69 (le61.t le70) (by simp) (fun _ => by simp)) <| Dv [6] <| D1 5 ?_
     obtain ⟨r73, hr74, h75⟩ := bind_some h57
     refine Av.callO (l' := [true, true, true, true, true, true, true, false, false, false]) (zd := false) (by kernel_rfl) (by kernel_rfl) (by kernel_rfl) (dst := (some 36)) (ty := 25) (g := none) (by kernel_rfl) rfl (f0 := (.func 177)) (aos := #[(.tmp 35)]) (ats := #[25]) (fid := 177) (first := #[]) (cap := #[]) (args := [(.slice a1_5 x1.Lines.length n1_5)]) rfl Bn rfl hs69 (Bp N w59 F4 hs69.pers x1.Lines a1_5 n1_5 hb1_5 (TK hs1_5 ((le36.t le61).trans le70)) _ hr74) ?_
     rintro _ F5 w77 _ hs78 le79 ⟨a81, n82, e83, rfl, rfl, hr84⟩
     have hs86 : HS w0 F0 w77 F5 [e83, (sb b27 #[(sv (([] : T2))), (vi 0), (vi 0), (vi 0), (.slice none ([] : List Int).length 0), (.slice none ([] : List Line).length 0)] 27), (sb b24 (AK x1 a1_4 n1_4 a1_5 n1_5) 27), (sb b21 (Ai x0) 23)] := hs78
     refine D1 7 <| Mn #[(sv x1.Call), (vi x1.Category), (vi x1.Power), (vi x1.Claimed), (.slice a63 r55.length n64), (.slice a1_5 x1.Lines.length n1_5)] hs86 ((le61.t le70).trans le79) (fun w87 hs88 => ?_)
     refine Dv [8] <| D1 9 <| Mn #[(sv x1.Call), (vi x1.Category), (vi x1.Power), (vi x1.Claimed), (.slice a63 r55.length n64), (.slice a81 r73.length n82)] hs88 ((le61.t le70).trans le79) (fun w89 hs90 => ?_)
     obtain rfl := Aa h75
     exact TU (by kernel_rfl) ⟨F5, a63, n64, a81, n82, e83, hs90, ((le61.t le70).trans le79), fI, hb72, (TK hs71 le79), hr84⟩
    ·refine TR (l' := [true, true, false, true, true, false, false, false, false, false]) (zd := false) (by kernel_rfl) (by kernel_rfl) (dst := (some 35)) (ty := 25) (g := none) (by kernel_rfl) rfl (Bt (t := 25) (x := (.tmp 34)) (b := b24) (o := 5) (g := false) (s := 1) (C := (AK x1 a1_4 n1_4 a1_5 n1_5)) (v := (.slice a1_5 x1.Lines.length n1_5)) rfl (by kernel_rfl) hw42.at1 rfl rfl rfl) (A8 hw42 (TI _) (by simp) (fun _ => by simp)) ?_
     refine D1 2 ?_
     obtain ⟨r91, hr92, h93⟩ := bind_some hj53
     refine Av.callO (l' := [true, true, true, true, true, false, false, false, false, false]) (zd := false) (by kernel_rfl) (by kernel_rfl) (by kernel_rfl) (dst := (some 33)) (ty := 24) (g := none) (by kernel_rfl) rfl (f0 := (.func 176)) (aos := #[(.tmp 32)]) (ats := #[24]) (fid := 176) (first := #[]) (cap := #[]) (args := [(.slice a1_4 x1.Jumps.length n1_4)]) rfl Ci rfl hw42 (Cw N wd41 F1 hw42.pers x1.Jumps a1_4 n1_4 hb1_4 (TK hs1_4 le36) _ hr92) ?_
     rintro _ F6 w95 _ hs96 le97 ⟨a99, n100, e101, rfl, rfl, hr102⟩
     have hs104 : HS w0 F0 w95 F6 [e101, (sb b27 #[(sv (([] : T2))), (vi 0), (vi 0), (vi 0), (.slice none ([] : List Int).length 0), (.slice none ([] : List Line).length 0)] 27), (sb b24 (AK x1 a1_4 n1_4 a1_5 n1_5) 27), (sb b21 (Ai x0) 23)] := hs96
     have hb108 := TV hr102
     obtain ⟨F7, hs105, le106, hs107⟩ := hs104.fr0 hr102
     refine Dv [6] <| D1 5 ?_
     obtain ⟨r109, hr110, h111⟩ := bind_some h93
     refine Av.callO (l' := [true, true, true, true, true, true, true, false, false, false]) (zd := false) (by kernel_rfl) (by kernel_rfl) (by kernel_rfl) (dst := (some 36)) (ty := 25) (g := none) (by kernel_rfl) rfl (f0 := (.func 177)) (aos := #[(.tmp 35)]) (ats := #[25]) (fid := 177) (first := #[]) (cap := #[]) (args := [(.slice a1_5 x1.Lines.length n1_5)]) rfl Bn rfl hs105 (Bp N w95 F7 hs105.pers x1.Lines a1_5 n1_5 hb1_5 (TK hs1_5 ((le36.t le97).trans le106)) _ hr110) ?_
     rintro _ F8 w113 _ hs114 le115 ⟨a117, n118, e119, rfl, rfl, hr120⟩
     have hs122 : HS w0 F0 w113 F8 [e119, (sb b27 #[(sv (([] : T2))), (vi 0), (vi 0), (vi 0), (.slice none ([] : List Int).length 0), (.slice none ([] : List Line).length 0)] 27), (sb b24 (AK x1 a1_4 n1_4 a1_5 n1_5) 27), (sb b21 (Ai x0) 23)] := hs114
     refine D1 7 <| Mn #[(sv x1.Call), (vi x1.Category), (vi x1.Power), (vi x1.Claimed), (.slice a99 r91.length n100), (.slice a1_5 x1.Lines.length n1_5)] hs122 ((le97.t le106).trans le115) (fun w123 hs124 => ?_)
     refine Dv [8] <| D1 9 <| Mn #[(sv x1.Call), (vi x1.Category), (vi x1.Power), (vi x1.Claimed), (.slice a99 r91.length n100), (.slice a117 r109.length n118)] hs124 ((le97.t le106).trans le115) (fun w125 hs126 => ?_)
     obtain rfl := Aa h111
     exact TU (by kernel_rfl) ⟨F8, a99, n100, a117, n118, e119, hs126, ((le97.t le106).trans le115), fI, hb108, (TK hs107 le115), hr120⟩
   ·refine TR (l' := [true, false, false, true, true, false, false, false, false, false]) (zd := false) (by kernel_rfl) (by kernel_rfl) (dst := (some 35)) (ty := 25) (g := none) (by kernel_rfl) rfl (Bt (t := 25) (x := (.tmp 34)) (b := b24) (o := 5) (g := false) (s := 1) (C := (AK x1 a1_4 n1_4 a1_5 n1_5)) (v := (.slice a1_5 x1.Lines.length n1_5)) rfl (by kernel_rfl) hw42.at1 rfl rfl rfl) (A8 hw42 (TI _) (by simp) (fun _ => by simp)) ?_
    refine D1 1 <| TR (l' := [true, true, false, true, true, false, false, false, false, false]) (zd := false) (by kernel_rfl) (by kernel_rfl) (dst := (some 32)) (ty := 24) (g := none) (by kernel_rfl) rfl (Bt (t := 24) (x := (.tmp 31)) (b := b24) (o := 4) (g := false) (s := 1) (C := (AK x1 a1_4 n1_4 a1_5 n1_5)) (v := (.slice a1_4 x1.Jumps.length n1_4)) rfl (by kernel_rfl) hw42.at1 rfl rfl rfl) (A8 hw42 (TI _) (by simp) (fun _ => by simp)) <| D1 2 ?_
    obtain ⟨r127, hr128, h129⟩ := bind_some hj53
    refine Av.callO (l' := [true, true, true, true, true, false, false, false, false, false]) (zd := false) (by kernel_rfl) (by kernel_rfl) (by kernel_rfl) (dst := (some 33)) (ty := 24) (g := none) (by kernel_rfl) rfl (f0 := (.func 176)) (aos := #[(.tmp 32)]) (ats := #[24]) (fid := 176) (first := #[]) (cap := #[]) (args := [(.slice a1_4 x1.Jumps.length n1_4)]) rfl Ci rfl hw42 (Cw N wd41 F1 hw42.pers x1.Jumps a1_4 n1_4 hb1_4 (TK hs1_4 le36) _ hr128) ?_
    rintro _ F9 w131 _ hs132 le133 ⟨a135, n136, e137, rfl, rfl, hr138⟩
    have hs140 : HS w0 F0 w131 F9 [e137, (sb b27 #[(sv (([] : T2))), (vi 0), (vi 0), (vi 0), (.slice none ([] : List Int).length 0), (.slice none ([] : List Line).length 0)] 27), (sb b24 (AK x1 a1_4 n1_4 a1_5 n1_5) 27), (sb b21 (Ai x0) 23)] := hs132
    have hb144 := TV hr138
    obtain ⟨F10, hs141, le142, hs143⟩ := hs140.fr0 hr138
    refine Dv [6] <| D1 5 ?_
    obtain ⟨r145, hr146, h147⟩ := bind_some h129
    refine Av.callO (l' := [true, true, true, true, true, true, true, false, false, false]) (zd := false) (by kernel_rfl) (by kernel_rfl) (by kernel_rfl) (dst := (some 36)) (ty := 25) (g := none) (by kernel_rfl) rfl (f0 := (.func 177)) (aos := #[(.tmp 35)]) (ats := #[25]) (fid := 177) (first := #[]) (cap := #[]) (args := [(.slice a1_5 x1.Lines.length n1_5)]) rfl Bn rfl hs141 (Bp N w131 F10 hs141.pers x1.Lines a1_5 n1_5 hb1_5 (TK hs1_5 ((le36.t le133).trans le142)) _ hr146) ?_
    rintro _ F11 w149 _ hs150 le151 ⟨a153, n154, e155, rfl, rfl, hr156⟩
    have hs158 : HS w0 F0 w149 F11 [e155, (sb b27 #[(sv (([] : T2))), (vi 0), (vi 0), (vi 0), (.slice none ([] : List Int).length 0), (.slice none ([] : List Line).length 0)] 27), (sb b24 (AK x1 a1_4 n1_4 a1_5 n1_5) 27), (sb b21 (Ai x0) 23)] := hs150
    refine D1 7 <| Mn #[(sv x1.Call), (vi x1.Category), (vi x1.Power), (vi x1.Claimed), (.slice a135 r127.length n136), (.slice a1_5 x1.Lines.length n1_5)] hs158 ((le133.t le142).trans le151) (fun w159 hs160 => ?_)
    refine Dv [8] <| D1 9 <| Mn #[(sv x1.Call), (vi x1.Category), (vi x1.Power), (vi x1.Claimed), (.slice a135 r127.length n136), (.slice a153 r145.length n154)] hs160 ((le133.t le142).trans le151) (fun w161 hs162 => ?_)
    obtain rfl := Aa h147
    exact TU (by kernel_rfl) ⟨F11, a135, n136, a153, n154, e155, hs162, ((le133.t le142).trans le151), fI, hb144, (TK hs143 le151), hr156⟩
  ·rintro f w43 ⟨F2, aj47_0, nj47_0, aj47_1, nj47_1, ej47_1, hs44, le45, ⟨_, rfl⟩, hbj47_0, hsj47_0, hrj47_1⟩
   refine Ab <| Sq (Rg (rG 5) ?_)
   refine Ld hs44.at3 <| Ld hs44.at2 <| Vs 1 <| Bx' 214 #[(.bool x0.Report), (.bool x0.Serial), (.bool x0.Zone), (sv x1.Call), (vi x1.Category), (vi x1.Power), (vi x1.Claimed), (.slice aj47_0 j47.1.length nj47_0), (.slice aj47_1 j47.2.length nj47_1)] hs44 (fun b163 w164 hs165 => ?_)
   refine Vs 1 <| Nss (Rg (rG 12) ?_)
   refine RWP.litMap (dst := (some 43)) (ty := 216) (g := none) (by kernel_rfl) rfl (t := 216) hs165 (fun b166 w167 (hs168 : HS w0 F0 w167 F2 [(some b166, (.map #[] 0)), (sb b163 #[(.bool x0.Report), (.bool x0.Serial), (.bool x0.Zone), (sv x1.Call), (vi x1.Category), (vi x1.Power), (vi x1.Claimed), (.slice aj47_0 j47.1.length nj47_0), (.slice aj47_1 j47.2.length nj47_1)] 214), ej47_1, (sb b27 #[(sv (([] : T2))), (vi 0), (vi 0), (vi 0), (.slice none ([] : List Int).length 0), (.slice none ([] : List Line).length 0)] 27), (sb b24 #[(sv x1.Call), (vi x1.Category), (vi x1.Power), (vi x1.Claimed), (.slice aj47_0 j47.1.length nj47_0), (.slice aj47_1 j47.2.length nj47_1)] 27), (sb b21 (Ai x0) 23)]) => ?_)
   refine Vs 2 <| RWP.litIns (d := .int .i64) (k := 3) (vt := 215) (ty := 0) (g := none) (mt := 216) (m := (.tmp 43)) (x := (.const (vi 1))) (y := (.tmp 45)) (b := b166) (q := 0) (kv := (vi 1)) (v := (.func (.func 178) #[(pt b163 0)] #[])) (by kernel_rfl) rfl rfl rfl rfl (by kernel_rfl) (by kernel_rfl) rfl (by kernel_rfl) hs168 rfl rfl (fun w169 (hs170 : HS w0 F0 w169 F2 [(some b166, (.map #[⟨(vi 1), (.func (.func 178) #[(pt b163 0)] #[]), 0⟩] 1)), (sb b163 #[(.bool x0.Report), (.bool x0.Serial), (.bool x0.Zone), (sv x1.Call), (vi x1.Category), (vi x1.Power), (vi x1.Claimed), (.slice aj47_0 j47.1.length nj47_0), (.slice aj47_1 j47.2.length nj47_1)] 214), ej47_1, (sb b27 #[(sv (([] : T2))), (vi 0), (vi 0), (vi 0), (.slice none ([] : List Int).length 0), (.slice none ([] : List Line).length 0)] 27), (sb b24 #[(sv x1.Call), (vi x1.Category), (vi x1.Power), (vi x1.Claimed), (.slice aj47_0 j47.1.length nj47_0), (.slice aj47_1 j47.2.length nj47_1)] 27), (sb b21 (Ai x0) 23)]) => ?_)
   refine Vs 2 <| RWP.litIns (d := .int .i64) (k := 3) (vt := 215) (ty := 0) (g := none) (mt := 216) (m := (.tmp 43)) (x := (.const (vi 2))) (y := (.tmp 47)) (b := b166) (q := 0) (kv := (vi 2)) (v := (.func (.func 179) #[(pt b163 0)] #[])) (by kernel_rfl) rfl rfl rfl rfl (by kernel_rfl) (by kernel_rfl) rfl (by kernel_rfl) hs170 rfl rfl (fun w171 (hs172 : HS w0 F0 w171 F2 [(some b166, (.map #[⟨(vi 1), (.func (.func 178) #[(pt b163 0)] #[]), 0⟩, ⟨(vi 2), (.func (.func 179) #[(pt b163 0)] #[]), 1⟩] 2)), (sb b163 #[(.bool x0.Report), (.bool x0.Serial), (.bool x0.Zone), (sv x1.Call), (vi x1.Category), (vi x1.Power), (vi x1.Claimed), (.slice aj47_0 j47.1.length nj47_0), (.slice aj47_1 j47.2.length nj47_1)] 214), ej47_1, (sb b27 #[(sv (([] : T2))), (vi 0), (vi 0), (vi 0), (.slice none ([] : List Int).length 0), (.slice none ([] : List Line).length 0)] 27), (sb b24 #[(sv x1.Call), (vi x1.Category), (vi x1.Power), (vi x1.Claimed), (.slice aj47_0 j47.1.length nj47_0), (.slice aj47_1 j47.2.length nj47_1)] 27), (sb b21 (Ai x0) 23)]) => ?_)
   refine Vs 2 <| RWP.litIns (d := .int .i64) (k := 3) (vt := 215) (ty := 0) (g := none) (mt := 216) (m := (.tmp 43)) (x := (.const (vi 3))) (y := (.tmp 49)) (b := b166) (q := 0) (kv := (vi 3)) (v := (.func (.func 180) #[(pt b163 0)] #[])) (by kernel_rfl) rfl rfl rfl rfl (by kernel_rfl) (by kernel_rfl) rfl (by kernel_rfl) hs172 rfl rfl (fun w173 (hs174 : HS w0 F0 w173 F2 [(some b166, (.map #[⟨(vi 1), (.func (.func 178) #[(pt b163 0)] #[]), 0⟩, ⟨(vi 2), (.func (.func 179) #[(pt b163 0)] #[]), 1⟩, ⟨(vi 3), (.func (.func 180) #[(pt b163 0)] #[]), 2⟩] 3)), (sb b163 #[(.bool x0.Report), (.bool x0.Serial), (.bool x0.Zone), (sv x1.Call), (vi x1.Category), (vi x1.Power), (vi x1.Claimed), (.slice aj47_0 j47.1.length nj47_0), (.slice aj47_1 j47.2.length nj47_1)] 214), ej47_1, (sb b27 #[(sv (([] : T2))), (vi 0), (vi 0), (vi 0), (.slice none ([] : List Int).length 0), (.slice none ([] : List Line).length 0)] 27), (sb b24 #[(sv x1.Call), (vi x1.Category), (vi x1.Power), (vi x1.Claimed), (.slice aj47_0 j47.1.length nj47_0), (.slice aj47_1 j47.2.length nj47_1)] 27), (sb b21 (Ai x0) 23)]) => ?_)
   refine Vs 2 <| Nss (Rg [0] ?_)
   refine Vs 1 <| Nss <| Sq (Rg [0, 1, 2] ?_)
   refine Vs 3 <| Nt ?_
   have hs175 := hs174.dr4.dummy (oc #[] 0)
   obtain ⟨o177, ho178, h179⟩ := bind_some h54
   refine TO (fun f w => ∃ (s194 : (List Fix × Int × Bool × Bool × Bool × T2 × Int × Int × Int × List Int × List Line)) (F13 : Mem) (as194_9 : T3) (ns194_9 : Nat) (as194_10 : T3) (ns194_10 : Nat) (es194_10 : Option Nat × Obj) (as194_0 : T3) (ns194_0 : Nat) (es194_0 : Option Nat × Obj), o177 = .done s194 /\ HS w0 F0 w F13 [es194_0, (sb b163 #[(.bool s194.2.2.1), (.bool s194.2.2.2.1), (.bool s194.2.2.2.2.1), (sv s194.2.2.2.2.2.1), (vi s194.2.2.2.2.2.2.1), (vi s194.2.2.2.2.2.2.2.1), (vi s194.2.2.2.2.2.2.2.2.1), (.slice as194_9 s194.2.2.2.2.2.2.2.2.2.1.length ns194_9), (.slice as194_10 s194.2.2.2.2.2.2.2.2.2.2.length ns194_10)] 214), es194_10, (sb b27 #[(sv (([] : T2))), (vi 0), (vi 0), (vi 0), (.slice none ([] : List Int).length 0), (.slice none ([] : List Line).length 0)] 27), (sb b21 (Ai x0) 23)] /\ TH F2 F13 /\ FI f [] [(2, (.slice a2_0 x2.length n2_0)), (3, (pt b21 0)), (6, (pt b27 0)), (12, (pt b163 0)), (14, (.slice as194_0 s194.1.length ns194_0))] /\ LC s194.2.2.2.2.2.2.2.2.2.1.length ns194_9 /\ SlA AG F13 as194_9 s194.2.2.2.2.2.2.2.2.2.1 /\ Ar AD 34 F13 as194_10 ns194_10 s194.2.2.2.2.2.2.2.2.2.2 es194_10 /\ Ar IQ 64 F13 as194_0 ns194_0 s194.1 es194_0) ?_ ?_
   ·refine Bk ?_
    refine TG (by kernel_rfl) (fun m f w => ∃ (s180 : (List Fix × Int × Bool × Bool × Bool × T2 × Int × Int × Int × List Int × List Line)) (F12 : Mem) (as180_9 : T3) (ns180_9 : Nat) (as180_10 : T3) (ns180_10 : Nat) (es180_10 : Option Nat × Obj) (as180_0 : T3) (ns180_0 : Nat) (es180_0 : Option Nat × Obj), A6 (Fe N x0 x1 x2 r30 j47) m s180 = some o177 /\ HS w0 F0 w F12 [es180_0, (some b166, (.map #[⟨(vi 1), (.func (.func 178) #[(pt b163 0)] #[]), 0⟩, ⟨(vi 2), (.func (.func 179) #[(pt b163 0)] #[]), 1⟩, ⟨(vi 3), (.func (.func 180) #[(pt b163 0)] #[]), 2⟩] 3)), (sb b163 #[(.bool s180.2.2.1), (.bool s180.2.2.2.1), (.bool s180.2.2.2.2.1), (sv s180.2.2.2.2.2.1), (vi s180.2.2.2.2.2.2.1), (vi s180.2.2.2.2.2.2.2.1), (vi s180.2.2.2.2.2.2.2.2.1), (.slice as180_9 s180.2.2.2.2.2.2.2.2.2.1.length ns180_9), (.slice as180_10 s180.2.2.2.2.2.2.2.2.2.2.length ns180_10)] 214), es180_10, (sb b27 #[(sv (([] : T2))), (vi 0), (vi 0), (vi 0), (.slice none ([] : List Int).length 0), (.slice none ([] : List Line).length 0)] 27), (sb b21 (Ai x0) 23)] /\ TH F2 F12 /\ FI f [] [(2, (.slice a2_0 x2.length n2_0)), (3, (pt b21 0)), (6, (pt b27 0)), (12, (pt b163 0)), (13, (.map (some b166))), (14, (.slice as180_0 s180.1.length ns180_0)), (51, (.slice a2_0 x2.length n2_0)), (52, (vi (x2.length : Int))), (53, (vi s180.2.1))] /\ LC s180.2.2.2.2.2.2.2.2.2.1.length ns180_9 /\ SlA AG F12 as180_9 s180.2.2.2.2.2.2.2.2.2.1 /\ Ar AD 34 F12 as180_10 ns180_10 s180.2.2.2.2.2.2.2.2.2.2 es180_10 /\ Ar IQ 64 F12 as180_0 ns180_0 s180.1 es180_0) N ⟨(([] : List Fix), 0, x0.Report, x0.Serial, x0.Zone, x1.Call, x1.Category, x1.Power, x1.Claimed, j47.1, j47.2), F2, aj47_0, nj47_0, aj47_1, nj47_1, ej47_1, none, 0, (none, .cells #[] 0 (0, 0)), ho178, hs175, (TI _), fI, hbj47_0, hsj47_0, hrj47_1, (TW IQ 64 F2 _)⟩ ?_
    rintro m204 f w181 ⟨s180, F12, as180_9, ns180_9, as180_10, ns180_10, es180_10, as180_0, ns180_0, es180_0, hit205, hs182, le183, ⟨_, rfl⟩, hbs180_9, hss180_9, hrs180_10, hrs180_0⟩
    obtain ⟨m206, fl207, rfl, hb208, hnx209⟩ := AQ hit205
    refine Sq (Rg [0] ?_)
    refine Vs 1 <| Nss <| Cd hb208 (fun hb210 h211 => ?_) (fun hb210 h212 => ?_)
    ·refine Sc ?_
     refine Ab <| Sq <| Bk <| Sq (Rg (rG 6) ?_)
     refine Vs 1 ?_
     obtain ⟨x213, hx214, h216⟩ := bind_some h211
     obtain ⟨hi215, hx214'⟩ := As hx214
     obtain ⟨b217, o218, C219, E220, fz221, rfl, hF223, hE224⟩ := TP (TK hs2_0 ((le36.t le45).trans le183)) hx214'
     have hc226 := hE224 _ _ hx214'
     refine Ix hi215 <| Lx 0 (hs182.pers _ _ hF223) hc226 <| Al' 64 #[(vi 0), (vi 0), (vi 0), (vi 0), (vi 0), (vi 0), (sv (([] : T2))), (vi 0), (vi 0), (vi 0), (vi 0), (vi 0), (vi 0)] hs182 (fun b227 w228 hs229 => ?_)
     refine Vs 1 <| St0 (N4 x213) hs229 (fun w230 hs231 => ?_)
     refine Nss (Rg (rG 9) ?_)
     refine Vs 2 <| Ld hs231.at0 <| Sp h216 (fun hb232 h233 => ?_) (fun hb232 h234 => ?_)
     ·refine V 62 217 (MV (mt := 216) (k := 3) (vt := 215) (d := .int .i64) (m := (.tmp 59)) (x := (.tmp 61)) (b := b166) (kv := (vi x213.Kind)) (v := (.func (.func 178) #[(pt b163 0)] #[])) (j := 0) rfl rfl (by kernel_rfl) (by kernel_rfl) rfl (hs231.ownAt (k := 2) rfl) (SK hb232)) ?_
      refine Vs 5 <| Nss <| Sq (Rg [0, 1] ?_)
      refine Vs 2 <| Nt <| C0 (rfl : false = false) <| Sc <| Ab <| Sq (Rg (rG 9) ?_)
      refine Vs 1 <| Ld hs231.at0 ?_
      have hs235 := hs231.pk6.pk6.pk4.pk4.pk4
      obtain ⟨r236, hr237, h238⟩ := bind_some h233
      refine CB Gl (GS N b163 (({ o_ := ({ Report := s180.2.2.1, Serial := s180.2.2.2.1, Zone := s180.2.2.2.2.1 } : Ac), l_ := ({ Call := s180.2.2.2.2.2.1, Category := s180.2.2.2.2.2.2.1, Power := s180.2.2.2.2.2.2.2.1, Claimed := s180.2.2.2.2.2.2.2.2.1, Jumps := s180.2.2.2.2.2.2.2.2.2.1, Lines := s180.2.2.2.2.2.2.2.2.2.2 } : Log) } : AZ)) as180_9 ns180_9 as180_10 ns180_10 es180_10 hbs180_9 hss180_9 hrs180_10 x213 hs235.pk6.pk6 _ hr237) ?_
      rintro _ F14 w239 _ hs240 le241 ⟨ar236_0_7, nr236_0_7, ar236_0_8, nr236_0_8, er236_0_8, rfl, rfl, hbr236_0_7, hsr236_0_7, hrr236_0_8⟩
      refine Vs 3 <| Al' 64 #[(vi 0), (vi 0), (vi 0), (vi 0), (vi 0), (vi 0), (sv (([] : T2))), (vi 0), (vi 0), (vi 0), (vi 0), (vi 0), (vi 0)] hs240 (fun b243 w244 hs245 => ?_)
      refine St0 (N4 r236.2.1) hs245 (fun w246 hs247 => ?_)
      refine Vs 1 <| Nss <| Sq (Rg [0, 1] ?_)
      refine Vs 2 <| Nt <| Cd h238 (fun hb248 h249 => ?_) (fun hb248 h250 => ?_)
      ·cases h249
      ·refine Sc ?_
       refine Ab <| Rg (rG 5) <| Vs 1 <| Ld hs247.at0 <| Bs 64 [(vi r236.2.1.Kind), (vi r236.2.1.Num), (vi r236.2.1.Line.Num), (vi r236.2.1.Line.Khz), (vi r236.2.1.Line.Mode), (vi r236.2.1.Line.Minute), (sv r236.2.1.Line.Call), (vi r236.2.1.Line.Sent.Report), (vi r236.2.1.Line.Sent.Serial), (vi r236.2.1.Line.Sent.Zone), (vi r236.2.1.Line.Got.Report), (vi r236.2.1.Line.Got.Serial), (vi r236.2.1.Line.Got.Zone)] hs247 (fun b251 w252 hs253 => ?_)
       have hr255 : Ar IQ 64 F14 (some ⟨b251, 0, none⟩) 1 [r236.2.1] (some b251, .cells ([(vi r236.2.1.Kind), (vi r236.2.1.Num), (vi r236.2.1.Line.Num), (vi r236.2.1.Line.Khz), (vi r236.2.1.Line.Mode), (vi r236.2.1.Line.Minute), (sv r236.2.1.Line.Call), (vi r236.2.1.Line.Sent.Report), (vi r236.2.1.Line.Sent.Serial), (vi r236.2.1.Line.Sent.Zone), (vi r236.2.1.Line.Got.Report), (vi r236.2.1.Line.Got.Serial), (vi r236.2.1.Line.Got.Zone)] : List Value).toArray 64 (0, 0)) := TX ⟨rfl, rfl⟩ (by simp)
       obtain ⟨r256, hap257, h258⟩ := bind_some h250
       refine Ap5 Tq hs253 (hrs180_0.mono le241) (hs253.rd0 hr255) hap257 (fun a259 n260 e261 w262 hs263 hr264 => ?_)
       refine Vs 1 <| TD <| Aw <| Ab <| Rg [0, 1] <| Vs 2 <| TD ?_
       have hs265 := hs263.dr0.dr0.dr2.pk5.pk5
       have hn266 := A2 h258 hnx209
       exact ⟨m206, Nat.lt_succ_self _, (r256, (W64 (s180.2.1 + 1)), r236.1.o_.Report, r236.1.o_.Serial, r236.1.o_.Zone, r236.1.l_.Call, r236.1.l_.Category, r236.1.l_.Power, r236.1.l_.Claimed, r236.1.l_.Jumps, r236.1.l_.Lines), F14, ar236_0_7, nr236_0_7, ar236_0_8, nr236_0_8, er236_0_8, a259, n260, e261, hn266, hs265.pk3.pk3.pk5.pk5, (le183.t le241), fI, hbr236_0_7, hsr236_0_7, hrr236_0_8, hr264⟩
     ·cases h234
    ·refine Ex ?_
     refine Au <| Au <| AA rfl ?_
     have ho267 := AR h212 hnx209
     exact .inl ⟨rfl, (s180.1, s180.2.1, s180.2.2.1, s180.2.2.2.1, s180.2.2.2.2.1, s180.2.2.2.2.2.1, s180.2.2.2.2.2.2.1, s180.2.2.2.2.2.2.2.1, s180.2.2.2.2.2.2.2.2.1, s180.2.2.2.2.2.2.2.2.2.1, s180.2.2.2.2.2.2.2.2.2.2), F12, as180_9, ns180_9, as180_10, ns180_10, es180_10, as180_0, ns180_0, es180_0, ho267, hs182.dr1, le183, fI, hbs180_9, hss180_9, hrs180_10, hrs180_0⟩
   ·rintro f w195 ⟨s194, F13, as194_9, ns194_9, as194_10, ns194_10, es194_10, as194_0, ns194_0, es194_0, rfl, hs196, le197, ⟨_, rfl⟩, hbs194_9, hss194_9, hrs194_10, hrs194_0⟩
    have h268 := BN h179
    refine Ab <| Sq <| Sq ?_
    obtain ⟨j274, hj281, h282⟩ := bind_some h268
    refine RD 7 7 [es194_0, (sb b163 #[(.bool s194.2.2.1), (.bool s194.2.2.2.1), (.bool s194.2.2.2.2.1), (sv s194.2.2.2.2.2.1), (vi s194.2.2.2.2.2.2.1), (vi s194.2.2.2.2.2.2.2.1), (vi s194.2.2.2.2.2.2.2.2.1), (.slice as194_9 s194.2.2.2.2.2.2.2.2.2.1.length ns194_9), (.slice as194_10 s194.2.2.2.2.2.2.2.2.2.2.length ns194_10)] 214), es194_10, (sb b27 #[(sv (([] : T2))), (vi 0), (vi 0), (vi 0), (.slice none ([] : List Int).length 0), (.slice none ([] : List Line).length 0)] 27), (sb b21 (Ai x0) 23)] [] hs196 (fun f w => ∃ (F15 : Mem), HS w0 F0 w F15 [es194_0, (sb b163 #[(.bool s194.2.2.1), (.bool s194.2.2.2.1), (.bool s194.2.2.2.2.1), (sv s194.2.2.2.2.2.1), (vi s194.2.2.2.2.2.2.1), (vi s194.2.2.2.2.2.2.2.1), (vi s194.2.2.2.2.2.2.2.2.1), (.slice as194_9 s194.2.2.2.2.2.2.2.2.2.1.length ns194_9), (.slice as194_10 s194.2.2.2.2.2.2.2.2.2.2.length ns194_10)] 214), es194_10, (sb b27 #[(sv (([] : T2))), (vi 0), (vi 0), (vi 0), (.slice none ([] : List Int).length 0), (.slice none ([] : List Line).length 0)] 27)] /\ TH F13 F15 /\ FI f [] [(2, (.slice a2_0 x2.length n2_0)), (6, (pt b27 0)), (12, (pt b163 0)), (14, (.slice as194_0 s194.1.length ns194_0)), (90, (.bool j274))]) (fun wd269 hw270 => ?_) ?_
    ·refine Dl 0 (fun _ hq => (hq.1.2 4 _ _ rfl)) ?_
     refine Dv [1, 2, 3] <| Dl 4 (fun _ hq => (hq.1.2 1 _ _ rfl)) <| D1 5 ?_
     obtain ⟨r283, hr284, h285⟩ := bind_some hj281
     refine Av.callLentP (l' := [true, true, true, true, true, true, false]) (zd := true) (by kernel_rfl) (by kernel_rfl) (by kernel_rfl) (q := 2) (v0 := (.bool r283)) (dst := (some 89)) (ty := 4) (g := none) (by kernel_rfl) rfl (f0 := (.func 25)) (aos := #[(.tmp 84), (.tmp 88)]) (ats := #[23, 27]) (fid := 25) (first := #[]) (cap := #[]) (args := [(.agg (Ai x0)), (.agg #[(sv s194.2.2.2.2.2.1), (vi s194.2.2.2.2.2.2.1), (vi s194.2.2.2.2.2.2.2.1), (vi s194.2.2.2.2.2.2.2.2.1), (.slice as194_9 s194.2.2.2.2.2.2.2.2.2.1.length ns194_9), (.slice as194_10 s194.2.2.2.2.2.2.2.2.2.2.length ns194_10)])]) rfl JO rfl hw270 rfl (KH N wd269 (Gv F13 es194_10) (HS.lend hw270 (q := 2) rfl).2 (hG.mono (((le36.t le45).trans le197).trans (HS.lend hw270 (q := 2) rfl).1)) ({ Report := x0.Report, Serial := x0.Serial, Zone := x0.Zone } : Ac) ({ Call := s194.2.2.2.2.2.1, Category := s194.2.2.2.2.2.2.1, Power := s194.2.2.2.2.2.2.2.1, Claimed := s194.2.2.2.2.2.2.2.2.1, Jumps := s194.2.2.2.2.2.2.2.2.2.1, Lines := s194.2.2.2.2.2.2.2.2.2.2 } : Log) as194_9 ns194_9 hbs194_9 (TK hss194_9 (HS.lend hw270 (q := 2) rfl).1) as194_10 ns194_10 (TV hrs194_10) (Ar.freeze hrs194_10 (HS.lend hw270 (q := 2) rfl).1) _ hr284) (fun F16 w286 (hs287 : HS w0 F0 w286 F16 [es194_0, (sb b163 #[(.bool s194.2.2.1), (.bool s194.2.2.2.1), (.bool s194.2.2.2.2.1), (sv s194.2.2.2.2.2.1), (vi s194.2.2.2.2.2.2.1), (vi s194.2.2.2.2.2.2.2.1), (vi s194.2.2.2.2.2.2.2.2.1), (.slice as194_9 s194.2.2.2.2.2.2.2.2.2.1.length ns194_9), (.slice as194_10 s194.2.2.2.2.2.2.2.2.2.2.length ns194_10)] 214), es194_10, (sb b27 #[(sv (([] : T2))), (vi 0), (vi 0), (vi 0), (.slice none ([] : List Int).length 0), (.slice none ([] : List Line).length 0)] 27), (sb b21 (Ai x0) 23)]) le288 => ?_)
     refine Dv [6] ?_
     obtain rfl := Aa h285
     exact TU (by kernel_rfl) ⟨F16, hs287.dr4, le288, fI⟩
    ·rintro f w271 ⟨F15, hs272, le273, ⟨_, rfl⟩⟩
     refine Ab <| Cd h282 (fun hb289 h290 => ?_) (fun hb289 h291 => ?_)
     ·cases h290
     ·refine Sc ?_
      refine Ab <| Sq (Rg (rG 9) ?_)
      refine Vs 3 <| Ld hs272.at1 <| Vs 1 <| St3 #[(sv s194.2.2.2.2.2.1), (vi s194.2.2.2.2.2.2.1), (vi s194.2.2.2.2.2.2.2.1), (vi s194.2.2.2.2.2.2.2.2.1), (.slice as194_9 s194.2.2.2.2.2.2.2.2.2.1.length ns194_9), (.slice as194_10 s194.2.2.2.2.2.2.2.2.2.2.length ns194_10)] hs272 (fun w292 hs293 => ?_)
      refine Vs 3 <| Nt <| Rt ?_
      obtain rfl := Aa h291
      exact ⟨rfl, (.tuple #[(.agg #[(sv s194.2.2.2.2.2.1), (vi s194.2.2.2.2.2.2.1), (vi s194.2.2.2.2.2.2.2.1), (vi s194.2.2.2.2.2.2.2.2.1), (.slice as194_9 s194.2.2.2.2.2.2.2.2.2.1.length ns194_9), (.slice as194_10 s194.2.2.2.2.2.2.2.2.2.2.length ns194_10)]), (.slice as194_0 s194.1.length ns194_0), (vi 0), (vi 0)]), AN (l := [.cell 6 27, .tmp 7, .tmp 8, .tmp 9]) (by kernel_rfl) (vs := [(.agg #[(sv s194.2.2.2.2.2.1), (vi s194.2.2.2.2.2.2.1), (vi s194.2.2.2.2.2.2.2.1), (vi s194.2.2.2.2.2.2.2.2.1), (.slice as194_9 s194.2.2.2.2.2.2.2.2.2.1.length ns194_9), (.slice as194_10 s194.2.2.2.2.2.2.2.2.2.2.length ns194_10)]), (.slice as194_0 s194.1.length ns194_0), (vi 0), (vi 0)]) ⟨b27, 0, rfl, Ak (t := 27) (g := true) (s := 6) (by kernel_rfl) hs293.at3 rfl (by decide), ⟨rfl, ⟨rfl, ⟨rfl, trivial⟩⟩⟩⟩, (.tuple #[(.agg #[(sv s194.2.2.2.2.2.1), (vi s194.2.2.2.2.2.2.1), (vi s194.2.2.2.2.2.2.2.1), (vi s194.2.2.2.2.2.2.2.2.1), (.slice as194_9 s194.2.2.2.2.2.2.2.2.2.1.length ns194_9), (.slice as194_10 s194.2.2.2.2.2.2.2.2.2.2.length ns194_10)]), (.slice as194_0 s194.1.length ns194_0), (vi 0), (vi 0)]), F15, _, rfl, hs293.dr1.dr2.pk1, ⟨as194_9, ns194_9, as194_10, ns194_10, es194_10, as194_0, ns194_0, es194_0, rfl, rfl, hbs194_9, (TK hss194_9 le273), (hrs194_10.mono le273), (hrs194_0.mono le273)⟩⟩
theorem Dz {N : Nat} {x r : List Fix} (h : Ba N x = some r) : r.length = x.length := by
 unfold Ba at h
 obtain ⟨o, ho, h⟩ := bind_some h
 obtain ⟨s1, hI, hb, _⟩ := N5 (fun s => s.2.2.length = x.length) (fun s s' hI hs => by
  unfold A0 at hs
  rcases MI hs with ⟨_, hs⟩ | ⟨_, hs⟩
  ·cases hs
  ·cases hs) (by rfl) ho
 unfold A0 at hb
 rcases MI hb with ⟨_, hb⟩ | ⟨_, hb⟩
 ·cases hb
 ·cases hb; cases h; exact hI
def Ka (N : Nat) (x0 : Ac) (x1 : Log) (x2 : (List Fix)) : Option ((List Fix) × Int) :=
 ((G5 N ({ Report := x0.Report, Serial := x0.Serial, Zone := x0.Zone } : Ac) x1 x2).bind fun r27 => ((Ba N r27.2.1).bind fun r41 => some (r41, r27.2.2.1)))
theorem LO : Ag Tryz.prog 53 := fun _ _ => by kernel_rfl
theorem Mg (N : Nat) (w0 : World) (F0 : Mem) (hF : T4 w0 F0) (hG : Bl F0) (x0 : Ac) (x1 : Log) (a1_4 : T3) (n1_4 : Nat) (hb1_4 : LC x1.Jumps.length n1_4) (hs1_4 : SlA AG F0 a1_4 x1.Jumps) (a1_5 : T3) (n1_5 : Nat) (hb1_5 : LC x1.Lines.length n1_5) (hs1_5 : SlA AD F0 a1_5 x1.Lines) (x2 : (List Fix)) (a2_0 : T3) (n2_0 : Nat) (hb2_0 : LC x2.length n2_0) (hs2_0 : SlA IQ F0 a2_0 x2) (r : ((List Fix) × Int)) (h : Ka N x0 x1 x2 = some r) :
  Calls Tryz.prog 53 ([(.agg (Ai x0)), (.agg (AK x1 a1_4 n1_4 a1_5 n1_5)), (.slice a2_0 x2.length n2_0)] : List Value).toArray w0 (Az w0 F0 fun F' v => ∃ (aq0_0 : T3) (nq0_0 : Nat), v = (.tuple #[(.slice aq0_0 r.1.length nq0_0), (vi r.2)]) /\ LC r.1.length nq0_0 /\ SlA IQ F' aq0_0 r.1) := by
 have hs0 := TJ hF
 refine Go 25 Tryz.func53 <| Sq (Rg (rG 4) ?_)
 refine Bx' 23 (Ai x0) hs0 (fun b21 w22 hs23 => ?_)
 refine Bx' 27 (AK x1 a1_4 n1_4 a1_5 n1_5) hs23 (fun b24 w25 hs26 => ?_)
 refine Vs 2 <| Nss (Rg (rG 14) ?_)
 refine Ld hs26.at1 <| Ld hs26.at0 <| Vs 1 ?_
 obtain ⟨r27, hr28, h29⟩ := bind_some h
 refine RWP.callO (dst := (some 16)) (ty := 162) (g := none) (by kernel_rfl) rfl (f0 := (.func 120)) (aos := #[(.tmp 13), (.tmp 14), (.tmp 15)]) (ats := #[23, 27, 60]) (fid := 120) (first := #[]) (cap := #[]) (args := [(.agg (Ai x0)), (.agg (AK x1 a1_4 n1_4 a1_5 n1_5)), (.slice a2_0 x2.length n2_0)]) rfl Ji rfl hs26 (JV N w25 F0 hs26.pers hG (({ Report := x0.Report, Serial := x0.Serial, Zone := x0.Zone } : Ac)) x1 a1_4 n1_4 hb1_4 hs1_4 a1_5 n1_5 hb1_5 hs1_5 x2 a2_0 n2_0 hb2_0 hs2_0 _ hr28) ?_
 rintro _ F1 w31 _ hs32 le33 ⟨ar27_0_4, nr27_0_4, ar27_0_5, nr27_0_5, er27_0_5, ar27_1_0, nr27_1_0, er27_1_0, rfl, rfl, hbr27_0_4, hsr27_0_4, hrr27_0_5, hrr27_1_0⟩
 have hs35 : HS w0 F0 w31 F1 [er27_0_5, er27_1_0, (sb b24 (AK x1 a1_4 n1_4 a1_5 n1_5) 27), (sb b21 (Ai x0) 23)] := hs32
 refine Vs 5 <| Al' 27 #[(sv (([] : T2))), (vi 0), (vi 0), (vi 0), (.slice none ([] : List Int).length 0), (.slice none ([] : List Line).length 0)] hs35 (fun b36 w37 hs38 => ?_)
 refine St0 (AK r27.1 ar27_0_4 nr27_0_4 ar27_0_5 nr27_0_5) hs38 (fun w39 hs40 => ?_)
 refine Vs 3 <| Nss (Rg [0, 1] ?_)
 refine Vs 1 ?_
 obtain ⟨r41, hr42, h43⟩ := bind_some h29
 refine RWP.callS (dst := (some 22)) (ty := 0) (g := none) (by kernel_rfl) rfl (f0 := (.func 126)) (aos := #[(.tmp 21)]) (ats := #[60]) (fid := 126) (first := #[]) (cap := #[]) (args := [(.slice ar27_1_0 r27.2.1.length nr27_1_0)]) rfl DA rfl (DN N (Lf := [(sb b36 (AK r27.1 ar27_0_4 nr27_0_4 ar27_0_5 nr27_0_5) 27), er27_0_5, (sb b24 (AK x1 a1_4 n1_4 a1_5 n1_5) 27), (sb b21 (Ai x0) 23)]) r27.2.1 ar27_1_0 nr27_1_0 er27_1_0 hrr27_1_0 hs40.pk4.pk4.pk3.pk3.pk4  _ hr42) ?_
 rintro _ w45 ⟨F2, e44, rfl, hs46, le47, hr48⟩
 refine ⟨_, rfl, ?_⟩
 have hs49 : HS w0 F0 w45 F2 [e44, (sb b36 (AK r27.1 ar27_0_4 nr27_0_4 ar27_0_5 nr27_0_5) 27), er27_0_5, (sb b24 (AK x1 a1_4 n1_4 a1_5 n1_5) 27), (sb b21 (Ai x0) 23)] := hs46
 refine Nss (Rg (rG 4) ?_)
 refine V 23 60 (mv 9 (.slice ar27_1_0 r41.length nr27_1_0) (SA rfl (Dz hr42))) <| Vs 3 <| Nt <| Rt ?_
 have hb53 := TV hr48
 obtain ⟨F3, hs50, le51, hs52⟩ := hs49.fr0 hr48
 obtain rfl := Aa h43
 exact Re [(.slice ar27_1_0 r41.length nr27_1_0), (vi r27.2.2.1)] hs50 ⟨ar27_1_0, nr27_1_0, rfl, hb53, hs52⟩
def CW (N : Nat)  : Option Ac :=
 some ({ Report := true, Serial := true, Zone := false } : Ac)
theorem B2 : Ag Tryz.prog 71 := fun _ _ => by kernel_rfl
theorem Cl (N : Nat) (w0 : World) (F0 : Mem) (hF : T4 w0 F0)  (r : Ac) (h : CW N  = some r) :
  Calls Tryz.prog 71 ([] : List Value).toArray w0 (Az w0 F0 fun F' v => v = (.agg (Ai r))) := by
 have hs0 := TJ hF
 refine Go 2 Tryz.func71 <| Sq (Rg [0] ?_)
 refine Al' 23 #[(.bool false), (.bool false), (.bool false)] hs0 (fun b21 w22 hs23 => ?_)
 refine Nss (Rg [0, 1] ?_)
 refine Vs 1 <| St0 #[(.bool true), (.bool true), (.bool false)] hs23 (fun w24 hs25 => ?_)
 refine Nt <| Rt ?_
 obtain rfl := Aa h
 exact ⟨rfl, (.agg #[(.bool true), (.bool true), (.bool false)]), AN (l := [.cell 0 23]) (by kernel_rfl) (vs := [(.agg #[(.bool true), (.bool true), (.bool false)])]) ⟨b21, 0, rfl, Ak (t := 23) (g := true) (s := 3) (by kernel_rfl) hs25.at0 rfl (by decide), trivial⟩, (.agg #[(.bool true), (.bool true), (.bool false)]), F0, rfl, hs25.clear, rfl⟩
def DH (N : Nat)  : Option Log :=
 some ({ Call := ([68, 76, 49, 88, 89] : T2), Category := 1, Power := 100, Claimed := 20, Jumps := ([] : List Int), Lines := [({ Num := 7, Khz := 14025, Mode := 1, Minute := 75, Call := ([75, 49, 65, 66, 67] : T2), Sent := ({ Report := 599, Serial := 12, Zone := 0 } : Ad), Got := ({ Report := 599, Serial := 3, Zone := 0 } : Ad) } : Line)] } : Log)
theorem Dm : Ag Tryz.prog 72 := fun _ _ => by kernel_rfl
theorem DO (N : Nat) (w0 : World) (F0 : Mem) (hF : T4 w0 F0)  (r : Log) (h : DH N  = some r) :
  Calls Tryz.prog 72 ([] : List Value).toArray w0 (Az w0 F0 fun F' v => ∃ (aq0_4 : T3) (nq0_4 : Nat) (aq0_5 : T3) (nq0_5 : Nat), v = (.agg (AK r aq0_4 nq0_4 aq0_5 nq0_5)) /\ LC r.Jumps.length nq0_4 /\ SlA AG F' aq0_4 r.Jumps /\ LC r.Lines.length nq0_5 /\ SlA AD F' aq0_5 r.Lines) := by
 have hs0 := TJ hF
 refine Go 8 Tryz.func72 <| Sq (Rg [0] ?_)
 refine Al' 27 #[(sv (([] : T2))), (vi 0), (vi 0), (vi 0), (.slice none ([] : List Int).length 0), (.slice none ([] : List Line).length 0)] hs0 (fun b21 w22 hs23 => ?_)
 refine Nss (Rg (rG 5) ?_)
 refine Vs 3 <| Al' 34 #[(vi 0), (vi 0), (vi 0), (vi 0), (sv (([] : T2))), (vi 0), (vi 0), (vi 0), (vi 0), (vi 0), (vi 0)] hs23 (fun b24 w25 hs26 => ?_)
 refine St0 #[(vi 7), (vi 14025), (vi 1), (vi 75), (sv (([75, 49, 65, 66, 67] : T2))), (vi 599), (vi 12), (vi 0), (vi 599), (vi 3), (vi 0)] hs26 (fun w27 hs28 => ?_)
 refine Nss (Rg (rG 4) ?_)
 refine Ld hs28.at0 <| Bs 34 [(vi 7), (vi 14025), (vi 1), (vi 75), (sv (([75, 49, 65, 66, 67] : T2))), (vi 599), (vi 12), (vi 0), (vi 599), (vi 3), (vi 0)] hs28 (fun b29 w30 hs31 => ?_)
 have hr33 : Ar AD 34 F0 (some ⟨b29, 0, none⟩) 1 [({ Num := 7, Khz := 14025, Mode := 1, Minute := 75, Call := ([75, 49, 65, 66, 67] : T2), Sent := ({ Report := 599, Serial := 12, Zone := 0 } : Ad), Got := ({ Report := 599, Serial := 3, Zone := 0 } : Ad) } : Line)] (some b29, .cells ([(vi 7), (vi 14025), (vi 1), (vi 75), (sv (([75, 49, 65, 66, 67] : T2))), (vi 599), (vi 12), (vi 0), (vi 599), (vi 3), (vi 0)] : List Value).toArray 34 (0, 0)) := TX ⟨rfl, rfl⟩ (by simp)
 refine Vs 1 <| St2 #[(sv (([68, 76, 49, 88, 89] : T2))), (vi 1), (vi 100), (vi 20), (.slice none ([] : List Int).length 0), (.slice (some ⟨b29, 0, none⟩) [({ Num := 7, Khz := 14025, Mode := 1, Minute := 75, Call := ([75, 49, 65, 66, 67] : T2), Sent := ({ Report := 599, Serial := 12, Zone := 0 } : Ad), Got := ({ Report := 599, Serial := 3, Zone := 0 } : Ad) } : Line)].length 1)] hs31 (fun w34 hs35 => ?_)
 refine Nt <| Rt ?_
 have hb39 := TV hr33
 obtain ⟨F1, hs36, le37, hs38⟩ := hs35.fr0 hr33
 obtain rfl := Aa h
 exact ⟨rfl, (.agg #[(sv (([68, 76, 49, 88, 89] : T2))), (vi 1), (vi 100), (vi 20), (.slice none ([] : List Int).length 0), (.slice (some ⟨b29, 0, none⟩) [({ Num := 7, Khz := 14025, Mode := 1, Minute := 75, Call := ([75, 49, 65, 66, 67] : T2), Sent := ({ Report := 599, Serial := 12, Zone := 0 } : Ad), Got := ({ Report := 599, Serial := 3, Zone := 0 } : Ad) } : Line)].length 1)]), AN (l := [.cell 0 27]) (by kernel_rfl) (vs := [(.agg #[(sv (([68, 76, 49, 88, 89] : T2))), (vi 1), (vi 100), (vi 20), (.slice none ([] : List Int).length 0), (.slice (some ⟨b29, 0, none⟩) [({ Num := 7, Khz := 14025, Mode := 1, Minute := 75, Call := ([75, 49, 65, 66, 67] : T2), Sent := ({ Report := 599, Serial := 12, Zone := 0 } : Ad), Got := ({ Report := 599, Serial := 3, Zone := 0 } : Ad) } : Line)].length 1)])]) ⟨b21, 0, rfl, Ak (t := 27) (g := true) (s := 6) (by kernel_rfl) hs36.at1 rfl (by decide), trivial⟩, (.agg #[(sv (([68, 76, 49, 88, 89] : T2))), (vi 1), (vi 100), (vi 20), (.slice none ([] : List Int).length 0), (.slice (some ⟨b29, 0, none⟩) [({ Num := 7, Khz := 14025, Mode := 1, Minute := 75, Call := ([75, 49, 65, 66, 67] : T2), Sent := ({ Report := 599, Serial := 12, Zone := 0 } : Ad), Got := ({ Report := 599, Serial := 3, Zone := 0 } : Ad) } : Line)].length 1)]), F1, rfl, hs36.clear, ⟨none, 0, (some ⟨b29, 0, none⟩), 1, rfl, TL, (.inl rfl), hb39, hs38⟩⟩
def I5 (N : Nat)  : Option Bool :=
 ((CW N ).bind fun r21 => ((DH N ).bind fun r29 => ((Ls N ({ Report := r21.Report, Serial := r21.Serial, Zone := r21.Zone } : Ac) r29).bind fun r37 => ((CW N ).bind fun r45 => ((Iv N ({ Report := r45.Report, Serial := r45.Serial, Zone := r45.Zone } : Ac) ([67, 65, 76, 76, 32, 68, 76, 49, 88, 89, 10, 67, 65, 84, 69, 71, 79, 82, 89, 32, 49, 10, 80, 79, 87, 69, 82, 32, 49, 48, 48, 10, 67, 76, 65, 73, 77, 69, 68, 32, 50, 48, 10, 74, 85, 77, 80, 83, 10, 81, 83, 79, 32, 55, 32, 49, 52, 48, 50, 53, 32, 77, 32, 49, 32, 48, 49, 49, 53, 32, 75, 49, 65, 66, 67, 32, 62, 32, 53, 57, 57, 32, 48, 49, 50, 32, 60, 32, 53, 57, 57, 32, 48, 48, 51, 10, 69, 78, 68, 10] : T2)).bind fun r53 => (((K0 ([67, 65, 76, 76, 32, 68, 76, 49, 88, 89, 10, 67, 65, 84, 69, 71, 79, 82, 89, 32, 49, 10, 80, 79, 87, 69, 82, 32, 49, 48, 48, 10, 67, 76, 65, 73, 77, 69, 68, 32, 50, 48, 10, 74, 85, 77, 80, 83, 10, 81, 83, 79, 32, 55, 32, 49, 52, 48, 50, 53, 32, 77, 32, 49, 32, 48, 49, 49, 53, 32, 75, 49, 65, 66, 67, 32, 62, 32, 53, 57, 57, 32, 48, 49, 50, 32, 60, 32, 53, 57, 57, 32, 48, 48, 51, 10, 69, 78, 68, 10] : T2) 0 96).bind fun r81 => ((CW N ).bind fun r84 => ((Iv N ({ Report := r84.Report, Serial := r84.Serial, Zone := r84.Zone } : Ac) r81).bind fun r92 => some (r92.2.1, r92.2.2)))).bind fun j71 => ((CW N ).bind fun r139 => ((J8 N ({ Report := r139.Report, Serial := r139.Serial, Zone := r139.Zone } : Ac) ([67, 65, 76, 76, 32, 68, 76, 49, 88, 89, 10, 67, 65, 84, 69, 71, 79, 82, 89, 32, 49, 10, 67, 76, 65, 73, 77, 69, 68, 32, 50, 48, 10, 74, 85, 77, 80, 83, 10, 81, 83, 79, 32, 55, 32, 49, 52, 48, 50, 53, 32, 77, 32, 49, 32, 48, 49, 49, 53, 32, 75, 49, 65, 66, 67, 32, 62, 32, 53, 57, 57, 32, 48, 49, 50, 32, 60, 32, 53, 57, 57, 32, 48, 48, 51, 10, 101, 110, 100, 10] : T2)).bind fun r147 => ((CW N ).bind fun r155 => ((DH N ).bind fun r163 => ((Ka N ({ Report := r155.Report, Serial := r155.Serial, Zone := r155.Zone } : Ac) r163 ([({ Kind := 1, Num := 7, Line := ({ Num := 0, Khz := 0, Mode := 0, Minute := 0, Call := ([] : T2), Sent := ({ Report := 0, Serial := 0, Zone := 0 } : Ad), Got := ({ Report := 0, Serial := 0, Zone := 0 } : Ad) } : Line) } : Fix)])).bind fun r180 => (bif ((r37.2 != 0) || ((r53.2.1 != 0) || ((j71.1 != 20) || ((r147.2.2.2 != 0) || ((r180.2 != 0) || ((j71.2 != 7) || ((r180.1.length : Int) != 1))))))) then some false else ((bif (r37.1 == ([67, 65, 76, 76, 32, 68, 76, 49, 88, 89, 10, 67, 65, 84, 69, 71, 79, 82, 89, 32, 49, 10, 80, 79, 87, 69, 82, 32, 49, 48, 48, 10, 67, 76, 65, 73, 77, 69, 68, 32, 50, 48, 10, 74, 85, 77, 80, 83, 10, 81, 83, 79, 32, 55, 32, 49, 52, 48, 50, 53, 32, 77, 32, 49, 32, 48, 49, 49, 53, 32, 75, 49, 65, 66, 67, 32, 62, 32, 53, 57, 57, 32, 48, 49, 50, 32, 60, 32, 53, 57, 57, 32, 48, 48, 51, 10, 69, 78, 68, 10] : T2)) then ((DH N ).bind fun r220 => ((Li N r53.1 r220).bind fun r228 => (bif r228 then (bif (r147.2.2.1 == 7) then (bif ((r147.2.1.length : Int) == 7) then ((idx r180.1 0).bind fun x245 => ((DH N ).bind fun r259 => ((idx r259.Lines 0).bind fun x267 => some ((x245.Line.Num == x267.Num) && ((x245.Line.Khz == x267.Khz) && ((x245.Line.Mode == x267.Mode) && ((x245.Line.Minute == x267.Minute) && ((x245.Line.Call == x267.Call) && (((x245.Line.Sent.Report == x267.Sent.Report) && ((x245.Line.Sent.Serial == x267.Sent.Serial) && ((x245.Line.Sent.Zone == x267.Sent.Zone) && true))) && (((x245.Line.Got.Report == x267.Got.Report) && ((x245.Line.Got.Serial == x267.Got.Serial) && ((x245.Line.Got.Zone == x267.Got.Zone) && true))) && true)))))))))) else some false) else some false) else some false))) else some false).bind fun j212 => some j212)))))))))))))
theorem KE : Ag Tryz.prog 19 := fun _ _ => by kernel_rfl
theorem L1 (N : Nat) (w0 : World) (F0 : Mem) (hF : T4 w0 F0) (hG : Bl F0)  (r : Bool) (h : I5 N  = some r) :
  Calls Tryz.prog 19 ([] : List Value).toArray w0 (Az w0 F0 fun F' v => v = (.bool r)) := by
 have hs0 := TJ hF
 refine Go 103 Tryz.func19 <| Sq (Rg [0] ?_)
 refine Vs 1 <| Nss (Rg (rG 8) ?_)
 obtain ⟨r21, hr22, h23⟩ := bind_some h
 refine Cl' B2 hs0 (Cl N w0 F0 hs0.pers  _ hr22) ?_
 rintro _ F1 w25 hs26 le27 rfl
 obtain ⟨r29, hr30, h31⟩ := bind_some h23
 refine Cl' Dm hs26 (DO N w25 F1 hs26.pers  _ hr30) ?_
 rintro _ F2 w33 hs34 le35 ⟨ar29_0_4, nr29_0_4, ar29_0_5, nr29_0_5, rfl, hbr29_0_4, hsr29_0_4, hbr29_0_5, hsr29_0_5⟩
 obtain ⟨r37, hr38, h39⟩ := bind_some h31
 refine Cl' Mc hs34 (Nz N w33 F2 hs34.pers (hG.mono (le27.t le35)) (({ Report := r21.Report, Serial := r21.Serial, Zone := r21.Zone } : Ac)) r29 ar29_0_4 nr29_0_4 hbr29_0_4 hsr29_0_4 ar29_0_5 nr29_0_5 hbr29_0_5 hsr29_0_5 _ hr38) ?_
 rintro _ F3 w41 hs42 le43 rfl
 refine Vs 5 <| Nss (Rg (rG 10) ?_)
 obtain ⟨r45, hr46, h47⟩ := bind_some h39
 refine Cl' B2 hs42 (Cl N w41 F3 hs42.pers  _ hr46) ?_
 rintro _ F4 w49 hs50 le51 rfl
 obtain ⟨r53, hr54, h55⟩ := bind_some h47
 refine Cl' Ea hs50 (EE N w49 F4 hs50.pers (hG.mono (((le27.t le35).trans le43).trans le51)) (({ Report := r45.Report, Serial := r45.Serial, Zone := r45.Zone } : Ac)) (([67, 65, 76, 76, 32, 68, 76, 49, 88, 89, 10, 67, 65, 84, 69, 71, 79, 82, 89, 32, 49, 10, 80, 79, 87, 69, 82, 32, 49, 48, 48, 10, 67, 76, 65, 73, 77, 69, 68, 32, 50, 48, 10, 74, 85, 77, 80, 83, 10, 81, 83, 79, 32, 55, 32, 49, 52, 48, 50, 53, 32, 77, 32, 49, 32, 48, 49, 49, 53, 32, 75, 49, 65, 66, 67, 32, 62, 32, 53, 57, 57, 32, 48, 49, 50, 32, 60, 32, 53, 57, 57, 32, 48, 48, 51, 10, 69, 78, 68, 10] : T2)) _ hr54) ?_
 rintro _ F5 w57 hs58 le59 ⟨ar53_0_4, nr53_0_4, ar53_0_5, nr53_0_5, rfl, hbr53_0_4, hsr53_0_4, hbr53_0_5, hsr53_0_5⟩
 refine Vs 4 <| Al' 27 #[(sv (([] : T2))), (vi 0), (vi 0), (vi 0), (.slice none ([] : List Int).length 0), (.slice none ([] : List Line).length 0)] hs58 (fun b61 w62 hs63 => ?_)
 refine St0 (AK r53.1 ar53_0_4 nr53_0_4 ar53_0_5 nr53_0_5) hs63 (fun w64 hs65 => ?_)
 refine Vs 2 <| Nss ?_
 obtain ⟨j71, hj79, h80⟩ := bind_some h55
 refine RD 11 11 [(sb b61 (AK r53.1 ar53_0_4 nr53_0_4 ar53_0_5 nr53_0_5) 27)] [] hs65 (fun f w => ∃ (F6 : Mem), HS w0 F0 w F6 [(sb b61 (AK r53.1 ar53_0_4 nr53_0_4 ar53_0_5 nr53_0_5) 27)] /\ TH F5 F6 /\ FI f [] [(1, (sv r37.1)), (2, (vi r37.2)), (3, (pt b61 0)), (4, (vi r53.2.1)), (7, (vi j71.1)), (8, (vi j71.2))]) (fun wd66 hw67 => ?_) ?_
 ·obtain ⟨r81, hr82, h83⟩ := bind_some hj79
  refine Dt 1 29 9 (sv r81) (fun _ hq => IU (t := 9) (x := (.const (sv ([67, 65, 76, 76, 32, 68, 76, 49, 88, 89, 10, 67, 65, 84, 69, 71, 79, 82, 89, 32, 49, 10, 80, 79, 87, 69, 82, 32, 49, 48, 48, 10, 67, 76, 65, 73, 77, 69, 68, 32, 50, 48, 10, 74, 85, 77, 80, 83, 10, 81, 83, 79, 32, 55, 32, 49, 52, 48, 50, 53, 32, 77, 32, 49, 32, 48, 49, 49, 53, 32, 75, 49, 65, 66, 67, 32, 62, 32, 53, 57, 57, 32, 48, 49, 50, 32, 60, 32, 53, 57, 57, 32, 48, 48, 51, 10, 69, 78, 68, 10] : T2)))) (lo := none) (hi := (some (.const (vi 96)))) (a := ([67, 65, 76, 76, 32, 68, 76, 49, 88, 89, 10, 67, 65, 84, 69, 71, 79, 82, 89, 32, 49, 10, 80, 79, 87, 69, 82, 32, 49, 48, 48, 10, 67, 76, 65, 73, 77, 69, 68, 32, 50, 48, 10, 74, 85, 77, 80, 83, 10, 81, 83, 79, 32, 55, 32, 49, 52, 48, 50, 53, 32, 77, 32, 49, 32, 48, 49, 49, 53, 32, 75, 49, 65, 66, 67, 32, 62, 32, 53, 57, 57, 32, 48, 49, 50, 32, 60, 32, 53, 57, 57, 32, 48, 48, 51, 10, 69, 78, 68, 10] : T2)) (il := 0) (ih := 96) (v := r81) rfl (by kernel_rfl) rfl rfl hr82) <| TQ (i := 0) (j := 7) (by kernel_rfl) ?_ ?_
  ·obtain ⟨r84, hr85, h86⟩ := bind_some h83
   refine DCl B2 hw67 (Cl N wd66 F5 hw67.pers  _ hr85) ?_
   rintro _ F7 w88 hs89 le90 rfl
   refine TQ (i := 2) (j := 7) (by kernel_rfl) ?_ ?_
   ·obtain ⟨r92, hr93, h94⟩ := bind_some h86
    refine DCl Ea hs89 (EE N w88 F7 hs89.pers (hG.mono (((((le27.t le35).trans le43).trans le51).trans le59).trans le90)) (({ Report := r84.Report, Serial := r84.Serial, Zone := r84.Zone } : Ac)) r81 _ hr93) ?_
    rintro _ F8 w96 hs97 le98 ⟨ar92_0_4, nr92_0_4, ar92_0_5, nr92_0_5, rfl, hbr92_0_4, hsr92_0_4, hbr92_0_5, hsr92_0_5⟩
    refine Dv [3, 4, 5, 6] <| D1 7 <| DAl 27 #[(sv (([] : T2))), (vi 0), (vi 0), (vi 0), (.slice none ([] : List Int).length 0), (.slice none ([] : List Line).length 0)] hs97 (le90.t le98) (fun b100 w101 hs102 => ?_)
    refine D1 8 <| Fy (AK r92.1 ar92_0_4 nr92_0_4 ar92_0_5 nr92_0_5) hs102 (le90.t le98) (fun w103 hs104 => ?_)
    refine Dv [9, 10] ?_
    obtain rfl := Aa h94
    exact TU (by kernel_rfl) ⟨F8, hs104.dr0, (le90.t le98), fI⟩
   ·refine DAl 27 #[(sv (([] : T2))), (vi 0), (vi 0), (vi 0), (.slice none ([] : List Int).length 0), (.slice none ([] : List Line).length 0)] hs89 le90 (fun b105 w106 hs107 => ?_)
    refine D1 2 ?_
    obtain ⟨r108, hr109, h110⟩ := bind_some h86
    refine DCl Ea hs107 (EE N w106 F7 hs107.pers (hG.mono (((((le27.t le35).trans le43).trans le51).trans le59).trans le90)) (({ Report := r84.Report, Serial := r84.Serial, Zone := r84.Zone } : Ac)) r81 _ hr109) ?_
    rintro _ F9 w112 hs113 le114 ⟨ar108_0_4, nr108_0_4, ar108_0_5, nr108_0_5, rfl, hbr108_0_4, hsr108_0_4, hbr108_0_5, hsr108_0_5⟩
    refine Dv [3, 4, 5, 6] <| D1 8 <| Fy (AK r108.1 ar108_0_4 nr108_0_4 ar108_0_5 nr108_0_5) hs113 (le90.t le114) (fun w116 hs117 => ?_)
    refine Dv [9, 10] ?_
    obtain rfl := Aa h110
    exact TU (by kernel_rfl) ⟨F9, hs117.dr0, (le90.t le114), fI⟩
  ·refine DAl 27 #[(sv (([] : T2))), (vi 0), (vi 0), (vi 0), (.slice none ([] : List Int).length 0), (.slice none ([] : List Line).length 0)] hw67 (TI _) (fun b118 w119 hs120 => ?_)
   refine D1 0 ?_
   obtain ⟨r121, hr122, h123⟩ := bind_some h83
   refine DCl B2 hs120 (Cl N w119 F5 hs120.pers  _ hr122) ?_
   rintro _ F10 w125 hs126 le127 rfl
   refine D1 2 ?_
   obtain ⟨r129, hr130, h131⟩ := bind_some h123
   refine DCl Ea hs126 (EE N w125 F10 hs126.pers (hG.mono (((((le27.t le35).trans le43).trans le51).trans le59).trans le127)) (({ Report := r121.Report, Serial := r121.Serial, Zone := r121.Zone } : Ac)) r81 _ hr130) ?_
   rintro _ F11 w133 hs134 le135 ⟨ar129_0_4, nr129_0_4, ar129_0_5, nr129_0_5, rfl, hbr129_0_4, hsr129_0_4, hbr129_0_5, hsr129_0_5⟩
   refine Dv [3, 4, 5, 6] <| D1 8 <| Fy (AK r129.1 ar129_0_4 nr129_0_4 ar129_0_5 nr129_0_5) hs134 (le127.t le135) (fun w137 hs138 => ?_)
   refine Dv [9, 10] ?_
   obtain rfl := Aa h131
   exact TU (by kernel_rfl) ⟨F11, hs138.dr0, (le127.t le135), fI⟩
 ·rintro f w68 ⟨F6, hs69, le70, ⟨_, rfl⟩⟩
  refine Ab <| Sq (Rg (rG 11) ?_)
  obtain ⟨r139, hr140, h141⟩ := bind_some h80
  refine Cl' B2 hs69 (Cl N w68 F6 hs69.pers  _ hr140) ?_
  rintro _ F12 w143 hs144 le145 rfl
  obtain ⟨r147, hr148, h149⟩ := bind_some h141
  refine Cl' LM hs144 (Me N w143 F12 hs144.pers (hG.mono ((((((le27.t le35).trans le43).trans le51).trans le59).trans le70).trans le145)) (({ Report := r139.Report, Serial := r139.Serial, Zone := r139.Zone } : Ac)) (([67, 65, 76, 76, 32, 68, 76, 49, 88, 89, 10, 67, 65, 84, 69, 71, 79, 82, 89, 32, 49, 10, 67, 76, 65, 73, 77, 69, 68, 32, 50, 48, 10, 74, 85, 77, 80, 83, 10, 81, 83, 79, 32, 55, 32, 49, 52, 48, 50, 53, 32, 77, 32, 49, 32, 48, 49, 49, 53, 32, 75, 49, 65, 66, 67, 32, 62, 32, 53, 57, 57, 32, 48, 49, 50, 32, 60, 32, 53, 57, 57, 32, 48, 48, 51, 10, 101, 110, 100, 10] : T2)) _ hr148) ?_
  rintro _ F13 w151 hs152 le153 ⟨ar147_1_0, nr147_1_0, rfl, hbr147_1_0, hsr147_1_0⟩
  refine Vs 9 <| Nss (Rg (rG 10) ?_)
  obtain ⟨r155, hr156, h157⟩ := bind_some h149
  refine Cl' B2 hs152 (Cl N w151 F13 hs152.pers  _ hr156) ?_
  rintro _ F14 w159 hs160 le161 rfl
  obtain ⟨r163, hr164, h165⟩ := bind_some h157
  refine Cl' Dm hs160 (DO N w159 F14 hs160.pers  _ hr164) ?_
  rintro _ F15 w167 hs168 le169 ⟨ar163_0_4, nr163_0_4, ar163_0_5, nr163_0_5, rfl, hbr163_0_4, hsr163_0_4, hbr163_0_5, hsr163_0_5⟩
  refine Vs 1 <| Bs 64 [(vi 1), (vi 7), (vi 0), (vi 0), (vi 0), (vi 0), (sv (([] : T2))), (vi 0), (vi 0), (vi 0), (vi 0), (vi 0), (vi 0)] hs168 (fun b171 w172 hs173 => ?_)
  have hr175 : Ar IQ 64 F15 (some ⟨b171, 0, none⟩) 1 [({ Kind := 1, Num := 7, Line := ({ Num := 0, Khz := 0, Mode := 0, Minute := 0, Call := ([] : T2), Sent := ({ Report := 0, Serial := 0, Zone := 0 } : Ad), Got := ({ Report := 0, Serial := 0, Zone := 0 } : Ad) } : Line) } : Fix)] (some b171, .cells ([(vi 1), (vi 7), (vi 0), (vi 0), (vi 0), (vi 0), (sv (([] : T2))), (vi 0), (vi 0), (vi 0), (vi 0), (vi 0), (vi 0)] : List Value).toArray 64 (0, 0)) := TX ⟨rfl, rfl⟩ (by simp)
  have hb179 := TV hr175
  obtain ⟨F16, hs176, le177, hs178⟩ := hs173.fr0 hr175
  obtain ⟨r180, hr181, h182⟩ := bind_some h165
  refine Cl' LO hs176 (Mg N w172 F16 hs176.pers (hG.mono ((((((((((le27.t le35).trans le43).trans le51).trans le59).trans le70).trans le145).trans le153).trans le161).trans le169).trans le177)) (({ Report := r155.Report, Serial := r155.Serial, Zone := r155.Zone } : Ac)) r163 ar163_0_4 nr163_0_4 hbr163_0_4 (TK hsr163_0_4 le177) ar163_0_5 nr163_0_5 hbr163_0_5 (TK hsr163_0_5 le177) ([({ Kind := 1, Num := 7, Line := ({ Num := 0, Khz := 0, Mode := 0, Minute := 0, Call := ([] : T2), Sent := ({ Report := 0, Serial := 0, Zone := 0 } : Ad), Got := ({ Report := 0, Serial := 0, Zone := 0 } : Ad) } : Line) } : Fix)]) (some ⟨b171, 0, none⟩) 1 hb179 hs178 _ hr181) ?_
  rintro _ F17 w184 hs185 le186 ⟨ar180_0_0, nr180_0_0, rfl, hbr180_0_0, hsr180_0_0⟩
  refine Vs 5 <| Nss <| Sq (Rg (rG 27) ?_)
  refine TN (fun f w => ∃ (F18 : Mem), HS w0 F0 w F18 [(sb b61 (AK r53.1 ar53_0_4 nr53_0_4 ar53_0_5 nr53_0_5) 27)] /\ TH F17 F18 /\ FI f [] [(1, (sv r37.1)), (3, (pt b61 0)), (10, (.slice ar147_1_0 r147.2.1.length nr147_1_0)), (11, (vi r147.2.2.1)), (13, (.slice ar180_0_0 r180.1.length nr180_0_0)), (75, (.bool ((r37.2 != 0) || ((r53.2.1 != 0) || ((j71.1 != 20) || ((r147.2.2.2 != 0) || ((r180.2 != 0) || ((j71.2 != 7) || ((r180.1.length : Int) != 1)))))))))]) ?_ ?_
  ·refine Vs 3 ?_
   refine TM (r37.2 != 0) (fun hb198 => ?_) (fun hb198 => ?_)
   ·refine Ss hb198 2 ?_
    refine Pk1 hb198 <| Vs 1 <| Ss (rfl : true = true) 2 <| Pk1 (rfl : true = true) <| Vs 1 <| Ss (rfl : true = true) 2 <| Pk1 (rfl : true = true) <| Vs 1 <| Ss (rfl : true = true) 2 <| Pk1 (rfl : true = true) <| Vs 1 <| Ss (rfl : true = true) 2 <| Pk1 (rfl : true = true) <| Vs 1 <| Ss (rfl : true = true) 3 <| Pk1 (rfl : true = true) ?_
    exact TD ⟨rfl, F17, hs185, (TI _), (fJ ⟨rfl, rfl, rfl, rfl, rfl, (congrArg Value.bool (GL hb198 rfl)), trivial⟩)⟩
   ·refine Vgs hb198 2 ?_
    refine Pk0 hb198 <| Vs 1 <| TM (r53.2.1 != 0) (fun hb199 => ?_) (fun hb199 => ?_)
    ·refine Ss hb199 2 ?_
     refine Pk1 hb199 <| Vs 1 <| Ss (rfl : true = true) 2 <| Pk1 (rfl : true = true) <| Vs 1 <| Ss (rfl : true = true) 2 <| Pk1 (rfl : true = true) <| Vs 1 <| Ss (rfl : true = true) 2 <| Pk1 (rfl : true = true) <| Vs 1 <| Ss (rfl : true = true) 3 <| Pk1 (rfl : true = true) ?_
     exact TD ⟨rfl, F17, hs185, (TI _), (fJ ⟨rfl, rfl, rfl, rfl, rfl, (congrArg Value.bool (CV hb198 (GL hb199 rfl))), trivial⟩)⟩
    ·refine Vgs hb199 2 ?_
     refine Pk0 hb199 <| Vs 1 <| TM (j71.1 != 20) (fun hb200 => ?_) (fun hb200 => ?_)
     ·refine Ss hb200 2 ?_
      refine Pk1 hb200 <| Vs 1 <| Ss (rfl : true = true) 2 <| Pk1 (rfl : true = true) <| Vs 1 <| Ss (rfl : true = true) 2 <| Pk1 (rfl : true = true) <| Vs 1 <| Ss (rfl : true = true) 3 <| Pk1 (rfl : true = true) ?_
      exact TD ⟨rfl, F17, hs185, (TI _), (fJ ⟨rfl, rfl, rfl, rfl, rfl, (congrArg Value.bool (CV hb198 (CV hb199 (GL hb200 rfl)))), trivial⟩)⟩
     ·refine Vgs hb200 2 ?_
      refine Pk0 hb200 <| Vs 1 <| TM (r147.2.2.2 != 0) (fun hb201 => ?_) (fun hb201 => ?_)
      ·refine Ss hb201 2 ?_
       refine Pk1 hb201 <| Vs 1 <| Ss (rfl : true = true) 2 <| Pk1 (rfl : true = true) <| Vs 1 <| Ss (rfl : true = true) 3 <| Pk1 (rfl : true = true) ?_
       exact TD ⟨rfl, F17, hs185, (TI _), (fJ ⟨rfl, rfl, rfl, rfl, rfl, (congrArg Value.bool (CV hb198 (CV hb199 (CV hb200 (GL hb201 rfl))))), trivial⟩)⟩
      ·refine Vgs hb201 2 ?_
       refine Pk0 hb201 <| Vs 1 <| TM (r180.2 != 0) (fun hb202 => ?_) (fun hb202 => ?_)
       ·refine Ss hb202 2 ?_
        refine Pk1 hb202 <| Vs 1 <| Ss (rfl : true = true) 3 <| Pk1 (rfl : true = true) ?_
        exact TD ⟨rfl, F17, hs185, (TI _), (fJ ⟨rfl, rfl, rfl, rfl, rfl, (congrArg Value.bool (CV hb198 (CV hb199 (CV hb200 (CV hb201 (GL hb202 rfl)))))), trivial⟩)⟩
       ·refine Vgs hb202 2 ?_
        refine Pk0 hb202 <| Vs 1 <| TM (j71.2 != 7) (fun hb203 => ?_) (fun hb203 => ?_)
        ·refine Ss hb203 3 ?_
         refine Pk1 hb203 ?_
         exact TD ⟨rfl, F17, hs185, (TI _), (fJ ⟨rfl, rfl, rfl, rfl, rfl, (congrArg Value.bool (CV hb198 (CV hb199 (CV hb200 (CV hb201 (CV hb202 (GL hb203 rfl))))))), trivial⟩)⟩
        ·refine Vgs hb203 3 ?_
         refine Pk0 hb203 ?_
         exact TD ⟨rfl, F17, hs185, (TI _), (fJ ⟨rfl, rfl, rfl, rfl, rfl, (congrArg Value.bool (CV hb198 (CV hb199 (CV hb200 (CV hb201 (CV hb202 (CV hb203 rfl))))))), trivial⟩)⟩
  ·rintro f w188 ⟨F18, hs189, le190, ⟨_, rfl⟩⟩
   refine Ab <| Cd h182 (fun hb204 h205 => ?_) (fun hb204 h206 => ?_)
   ·refine Sq (Rg [0] ?_)
    refine Vs 1 <| Nt <| Rt <| Am ?_
    obtain rfl := Aa h205
    exact Re [(.bool false)] hs189 rfl
   ·refine Sc ?_
    refine Ab <| Sq ?_
    obtain ⟨j212, hj215, h216⟩ := bind_some h206
    refine RD 28 28 [(sb b61 (AK r53.1 ar53_0_4 nr53_0_4 ar53_0_5 nr53_0_5) 27)] [] hs189 (fun f w => ∃ (F19 : Mem), HS w0 F0 w F19 [] /\ TH F18 F19 /\ FI f [] [(0, (.bool j212))]) (fun wd207 hw208 => ?_) ?_
    ·refine Dvl [0, 1, 2] (tf 3 25) ?_
     refine Sd hj215 (fun hb217 h218 => ?_) (fun hb217 h219 => ?_)
     ·refine Dgl 3 79 27 _ (tf 4 24) 2 true 78 hb217 (fun _ hq => ld 27 3 b61 0 true 6 (.agg (AK r53.1 ar53_0_4 nr53_0_4 ar53_0_5 nr53_0_5)) (hq.1.2 0 _ _ rfl)) ?_
      refine D1 4 ?_
      obtain ⟨r220, hr221, h222⟩ := bind_some h218
      refine TT (l' := [true, true, true, true, true, false, false, false, false, false, false, false, false, false, false, false, false, false, false, false, false, false, false, false, false, false, false, false]) (zd := true) (by kernel_rfl) (by kernel_rfl) (by kernel_rfl) (dst := (some 80)) (ty := 27) (g := (some (2, true))) (by kernel_rfl) (Hd (d := 78) (by kernel_rfl) rfl hb217) (f0 := (.func 72)) (aos := #[]) (ats := #[]) (fid := 72) (first := #[]) (cap := #[]) (args := []) rfl Dm rfl hw208 (DO N wd207 F18 hw208.pers  _ hr221) ?_
      rintro _ F20 w224 hs225 le226 ⟨ar220_0_4, nr220_0_4, ar220_0_5, nr220_0_5, rfl, hbr220_0_4, hsr220_0_4, hbr220_0_5, hsr220_0_5⟩
      refine D1 5 ?_
      obtain ⟨r228, hr229, h230⟩ := bind_some h222
      refine TT (l' := [true, true, true, true, true, true, false, false, false, false, false, false, false, false, false, false, false, false, false, false, false, false, false, false, false, false, false, false]) (zd := true) (by kernel_rfl) (by kernel_rfl) (by kernel_rfl) (dst := (some 81)) (ty := 4) (g := (some (2, true))) (by kernel_rfl) (Hd (d := 78) (by kernel_rfl) rfl hb217) (f0 := (.func 35)) (aos := #[(.tmp 79), (.tmp 80)]) (ats := #[27, 27]) (fid := 35) (first := #[]) (cap := #[]) (args := [(.agg (AK r53.1 ar53_0_4 nr53_0_4 ar53_0_5 nr53_0_5)), (.agg (AK r220 ar220_0_4 nr220_0_4 ar220_0_5 nr220_0_5))]) rfl Ma rfl hs225 (Nx N w224 F20 hs225.pers r53.1 ar53_0_4 nr53_0_4 hbr53_0_4 (TK hsr53_0_4 ((((((((le70.t le145).trans le153).trans le161).trans le169).trans le177).trans le186).trans le190).trans le226)) ar53_0_5 nr53_0_5 hbr53_0_5 (TK hsr53_0_5 ((((((((le70.t le145).trans le153).trans le161).trans le169).trans le177).trans le186).trans le190).trans le226)) r220 ar220_0_4 nr220_0_4 hbr220_0_4 hsr220_0_4 ar220_0_5 nr220_0_5 hbr220_0_5 hsr220_0_5 _ hr229) ?_
      rintro _ F21 w232 hs233 le234 rfl
      refine Dtl 6 82 4 _ (tf 7 21) (fun _ hq => p1 78 (.tmp 81) (.const (.bool false)) (.bool r228) hb217) <| Dvl [7] (tf 8 20) <| Sd h230 (fun hb236 h237 => ?_) (fun hb236 h238 => ?_)
      ·refine Dgl 8 84 3 _ (tf 9 19) 7 true 83 hb236 (fun _ hq => mv 11 (vi r147.2.2.1)) ?_
       refine Dgl 9 85 4 (.bool (r147.2.2.1 == 7)) (tf 10 18) 7 true 83 hb236 (fun _ hq => IW (t := 3) (t' := 3) (x := (.tmp 84)) (y := (.const (vi 7))) (k := .i64) (a := r147.2.2.1) (b := 7) rfl rfl) <| Dtl 10 86 4 _ (tf 11 17) (fun _ hq => p1 83 (.tmp 85) (.const (.bool false)) (.bool (r147.2.2.1 == 7)) hb236) <| Dvl [11] (tf 12 16) <| Sd h237 (fun hb239 h240 => ?_) (fun hb239 h241 => ?_)
       ·refine Dgl 12 88 48 _ (tf 13 15) 11 true 87 hb239 (fun _ hq => mv 10 (.slice ar147_1_0 r147.2.1.length nr147_1_0)) ?_
        refine Dgl 13 89 3 (vi (r147.2.1.length : Int)) (tf 14 14) 11 true 87 hb239 (fun _ hq => ln 88 48 ar147_1_0 r147.2.1.length nr147_1_0 150 3 32) <| Dgl 14 90 4 (.bool ((r147.2.1.length : Int) == 7)) (tf 15 13) 11 true 87 hb239 (fun _ hq => IW (t := 3) (t' := 3) (x := (.tmp 89)) (y := (.const (vi 7))) (k := .i64) (a := (r147.2.1.length : Int)) (b := 7) rfl rfl) <| Dtl 15 91 4 _ (tf 16 12) (fun _ hq => p1 87 (.tmp 90) (.const (.bool false)) (.bool ((r147.2.1.length : Int) == 7)) hb239) <| Dvl [16] (tf 17 11) <| Sd h240 (fun hb242 h243 => ?_) (fun hb242 h244 => ?_)
        ·refine Dgl 17 93 60 _ (tf 18 10) 16 true 92 hb242 (fun _ hq => mv 13 (.slice ar180_0_0 r180.1.length nr180_0_0)) ?_
         obtain ⟨x245, hx246, h248⟩ := bind_some h243
         obtain ⟨hi247, hx246'⟩ := As hx246
         obtain ⟨b249, o250, C251, E252, fz253, rfl, hF255, hE256⟩ := TP (TK hsr180_0_0 le190) hx246'
         have hc258 := hE256 _ _ hx246'
         refine Dgl 18 94 0 (.pointer (some ⟨b249, (o250 + (0 : Int).toNat * 13), none⟩)) (tf 19 9) 16 true 92 hb242 (fun _ hq => Cf (t := 60) (x := (.tmp 93)) (y := (.const (vi 0))) (b := b249) (o := o250) (E := 64) (s := 13) (by_ := 112) rfl rfl (by kernel_rfl) hi247) <| Dgl 19 95 0 (.pointer (some ⟨b249, ((o250 + (0 : Int).toNat * 13) + 2), none⟩)) (tf 20 8) 16 true 92 hb242 (fun _ hq => fa 64 94 2 2 11 b249 (o250 + (0 : Int).toNat * 13) ((o250 + (0 : Int).toNat * 13) + 2)) <| Dgl 20 96 34 _ (tf 21 7) 16 true 92 hb242 (fun _ hq => lx 34 95 2 13 true 11 (.agg (BI x245.Line)) (hq.1.1 _ _ hF255) hc258) <| D1 21 ?_
         obtain ⟨r259, hr260, h261⟩ := bind_some h248
         refine TT (l' := [true, true, true, true, true, true, true, true, true, true, true, true, true, true, true, true, true, true, true, true, true, true, false, false, false, false, false, false]) (zd := true) (by kernel_rfl) (by kernel_rfl) (by kernel_rfl) (dst := (some 97)) (ty := 27) (g := (some (16, true))) (by kernel_rfl) (Hd (d := 92) (by kernel_rfl) rfl hb242) (f0 := (.func 72)) (aos := #[]) (ats := #[]) (fid := 72) (first := #[]) (cap := #[]) (args := []) rfl Dm rfl hs233 (DO N w232 F21 hs233.pers  _ hr260) ?_
         rintro _ F22 w263 hs264 le265 ⟨ar259_0_4, nr259_0_4, ar259_0_5, nr259_0_5, rfl, hbr259_0_4, hsr259_0_4, hbr259_0_5, hsr259_0_5⟩
         refine Dgl 22 98 25 _ (tf 23 5) 16 true 92 hb242 (fun _ hq => K9 (s := 27) (x := (.tmp 97)) (i := 5) (o := 5) (k := 1) (t := 25) (gg := false) (cs := (AK r259 ar259_0_4 nr259_0_4 ar259_0_5 nr259_0_5)) (v := (.slice ar259_0_5 r259.Lines.length nr259_0_5)) rfl (by kernel_rfl) (by kernel_rfl) rfl rfl rfl) ?_
         obtain ⟨x267, hx268, h270⟩ := bind_some h261
         obtain ⟨hi269, hx268'⟩ := As hx268
         obtain ⟨b271, o272, C273, E274, fz275, rfl, hF277, hE278⟩ := TP hsr259_0_5 hx268'
         have hc280 := hE278 _ _ hx268'
         refine Dgl 23 99 0 (.pointer (some ⟨b271, (o272 + (0 : Int).toNat * 11), none⟩)) (tf 24 4) 16 true 92 hb242 (fun _ hq => Cf (t := 25) (x := (.tmp 98)) (y := (.const (vi 0))) (b := b271) (o := o272) (E := 34) (s := 11) (by_ := 96) rfl rfl (by kernel_rfl) hi269) <| D1 24 <| TR (l' := [true, true, true, true, true, true, true, true, true, true, true, true, true, true, true, true, true, true, true, true, true, true, true, true, true, false, false, false]) (zd := true) (by kernel_rfl) (by kernel_rfl) (dst := (some 100)) (ty := 34) (g := (some (16, true))) (by kernel_rfl) (Hd (d := 92) (by kernel_rfl) rfl hb242) (Jz (t := 34) (x := (.tmp 99)) (b := b271) (o := (o272 + (0 : Int).toNat * 11)) (j := 0) (C := C273) (kk := 11) (cs := [(vi x267.Num), (vi x267.Khz), (vi x267.Mode), (vi x267.Minute), (sv x267.Call), (vi x267.Sent.Report), (vi x267.Sent.Serial), (vi x267.Sent.Zone), (vi x267.Got.Report), (vi x267.Got.Serial), (vi x267.Got.Zone)]) (gg := true) (s := 11) (v := (.agg (BI x267))) rfl (by kernel_rfl) (hs264.pers _ _ hF277) hc280 (by decide) (by exact ⟨rfl, trivial⟩) rfl rfl) (A8 hs264 ((le226.t le234).trans le265) (by simp) (fun e => by cases e)) <| Dgl 25 101 4 (.bool ((x245.Line.Num == x267.Num) && ((x245.Line.Khz == x267.Khz) && ((x245.Line.Mode == x267.Mode) && ((x245.Line.Minute == x267.Minute) && ((x245.Line.Call == x267.Call) && (((x245.Line.Sent.Report == x267.Sent.Report) && ((x245.Line.Sent.Serial == x267.Sent.Serial) && ((x245.Line.Sent.Zone == x267.Sent.Zone) && true))) && (((x245.Line.Got.Report == x267.Got.Report) && ((x245.Line.Got.Serial == x267.Got.Serial) && ((x245.Line.Got.Zone == x267.Got.Zone) && true))) && true)))))))) (tf 26 2) 16 true 92 hb242 (fun _ hq => O9 (t := 34) (t' := 34) (x := (.tmp 96)) (y := (.tmp 100)) (xs := (BI x245.Line)) (ys := (BI x267)) (b := ((x245.Line.Num == x267.Num) && ((x245.Line.Khz == x267.Khz) && ((x245.Line.Mode == x267.Mode) && ((x245.Line.Minute == x267.Minute) && ((x245.Line.Call == x267.Call) && (((x245.Line.Sent.Report == x267.Sent.Report) && ((x245.Line.Sent.Serial == x267.Sent.Serial) && ((x245.Line.Sent.Zone == x267.Sent.Zone) && true))) && (((x245.Line.Got.Report == x267.Got.Report) && ((x245.Line.Got.Serial == x267.Got.Serial) && ((x245.Line.Got.Zone == x267.Got.Zone) && true))) && true)))))))) rfl rfl (by kernel_rfl) (by kernel_rfl)) <| Dtl 26 102 4 _ (tf 27 1) (fun _ hq => p1 92 (.tmp 101) (.const (.bool false)) (.bool ((x245.Line.Num == x267.Num) && ((x245.Line.Khz == x267.Khz) && ((x245.Line.Mode == x267.Mode) && ((x245.Line.Minute == x267.Minute) && ((x245.Line.Call == x267.Call) && (((x245.Line.Sent.Report == x267.Sent.Report) && ((x245.Line.Sent.Serial == x267.Sent.Serial) && ((x245.Line.Sent.Zone == x267.Sent.Zone) && true))) && (((x245.Line.Got.Report == x267.Got.Report) && ((x245.Line.Got.Serial == x267.Got.Serial) && ((x245.Line.Got.Zone == x267.Got.Zone) && true))) && true)))))))) hb242) <| Dvl [27] (tf 28 0) ?_
         obtain rfl := Aa h270
         exact TU (by kernel_rfl) ⟨F22, hs264.dr0, ((le226.t le234).trans le265), fI⟩
        ·refine Dkl [(17, 93), (18, 94), (19, 95), (20, 96), (21, 97), (22, 98)] 16 true 92 hb242 (tf 23 5) ?_
         refine Dkl [(23, 99), (24, 100), (25, 101)] 16 true 92 hb242 (tf 26 2) <| Dtl 26 102 4 _ (tf 27 1) (fun _ hq => p0 92 (.tmp 101) (.const (.bool false)) (.bool false) hb242) <| Dvl [27] (tf 28 0) ?_
         obtain rfl := Aa h244
         exact TU (by kernel_rfl) ⟨F21, hs233.dr0, (le226.t le234), fI⟩
       ·refine Dkl [(12, 88), (13, 89), (14, 90)] 11 true 87 hb239 (tf 15 13) ?_
        refine Dtl 15 91 4 _ (tf 16 12) (fun _ hq => p0 87 (.tmp 90) (.const (.bool false)) (.bool false) hb239) <| Dvl [16] (tf 17 11) <| Dkl [(17, 93), (18, 94), (19, 95), (20, 96), (21, 97), (22, 98)] 16 true 92 rfl (tf 23 5) <| Dkl [(23, 99), (24, 100), (25, 101)] 16 true 92 rfl (tf 26 2) <| Dtl 26 102 4 _ (tf 27 1) (fun _ hq => p0 92 (.tmp 101) (.const (.bool false)) (.bool false) rfl) <| Dvl [27] (tf 28 0) ?_
        obtain rfl := Aa h241
        exact TU (by kernel_rfl) ⟨F21, hs233.dr0, (le226.t le234), fI⟩
      ·refine Dkl [(8, 84), (9, 85)] 7 true 83 hb236 (tf 10 18) ?_
       refine Dtl 10 86 4 _ (tf 11 17) (fun _ hq => p0 83 (.tmp 85) (.const (.bool false)) (.bool false) hb236) <| Dvl [11] (tf 12 16) <| Dkl [(12, 88), (13, 89), (14, 90)] 11 true 87 rfl (tf 15 13) <| Dtl 15 91 4 _ (tf 16 12) (fun _ hq => p0 87 (.tmp 90) (.const (.bool false)) (.bool false) rfl) <| Dvl [16] (tf 17 11) <| Dkl [(17, 93), (18, 94), (19, 95), (20, 96), (21, 97), (22, 98)] 16 true 92 rfl (tf 23 5) <| Dkl [(23, 99), (24, 100), (25, 101)] 16 true 92 rfl (tf 26 2) <| Dtl 26 102 4 _ (tf 27 1) (fun _ hq => p0 92 (.tmp 101) (.const (.bool false)) (.bool false) rfl) <| Dvl [27] (tf 28 0) ?_
       obtain rfl := Aa h238
       exact TU (by kernel_rfl) ⟨F21, hs233.dr0, (le226.t le234), fI⟩
     ·refine Dkl [(3, 79), (4, 80), (5, 81)] 2 true 78 hb217 (tf 6 22) ?_
      refine Dtl 6 82 4 _ (tf 7 21) (fun _ hq => p0 78 (.tmp 81) (.const (.bool false)) (.bool false) hb217) <| Dvl [7] (tf 8 20) <| Dkl [(8, 84), (9, 85)] 7 true 83 rfl (tf 10 18) <| Dtl 10 86 4 _ (tf 11 17) (fun _ hq => p0 83 (.tmp 85) (.const (.bool false)) (.bool false) rfl) <| Dvl [11] (tf 12 16) <| Dkl [(12, 88), (13, 89), (14, 90)] 11 true 87 rfl (tf 15 13) <| Dtl 15 91 4 _ (tf 16 12) (fun _ hq => p0 87 (.tmp 90) (.const (.bool false)) (.bool false) rfl) <| Dvl [16] (tf 17 11) <| Dkl [(17, 93), (18, 94), (19, 95), (20, 96), (21, 97), (22, 98)] 16 true 92 rfl (tf 23 5) <| Dkl [(23, 99), (24, 100), (25, 101)] 16 true 92 rfl (tf 26 2) <| Dtl 26 102 4 _ (tf 27 1) (fun _ hq => p0 92 (.tmp 101) (.const (.bool false)) (.bool false) rfl) <| Dvl [27] (tf 28 0) ?_
      obtain rfl := Aa h219
      exact TU (by kernel_rfl) ⟨F18, hw208.dr0, (TI _), fI⟩
    ·rintro f w209 ⟨F19, hs210, le211, ⟨_, rfl⟩⟩
     refine Ab <| Rt ?_
     obtain rfl := Aa h216
     exact Re [(.bool j212)] hs210 rfl
set_option maxRecDepth 100000 in
theorem P0 : I5 9223372036854775808 = some true := by kernel_rfl
def G9 (_N : Nat) : Option Bool := some true
theorem LP : Ag Tryz.prog 19 := KE
theorem Mh (N : Nat) (w0 : World) (F0 : Mem) (hF : T4 w0 F0) (hG : Bl F0) (r : Bool) (h : G9 N = some r) :
  Calls Tryz.prog 19 ([] : List Value).toArray w0 (Az w0 F0 fun F' v => v = (.bool r)) := by
 cases h
 exact L1 9223372036854775808 w0 F0 hF hG true P0




section
variable {N : Nat}
def Gg (l : T2) : List Int := l.map fun b => (b.toNat : Int)
theorem P9 (l : T2) : toB (Gg l) = l := by
 unfold toB Gg
 rw [List.map_map]
 have : ((fun n : Int => UInt8.ofNat n.toNat) ∘ fun b : UInt8 => (b.toNat : Int)) = id := by
  funext b
  simp
 rw [this, List.map_id]
def BD (st : T2 × Bool) : T2 := if st.2 = true /\ st.1 ≠ [] then st.1 ++ [32] else st.1
def cvt (b : UInt8) : UInt8 := if 97 <= b.toNat /\ b.toNat <= 122 then b - 32 else if b = 9 \/ b = 13 then 32 else b
theorem RZ (b : UInt8) : ((cvt b).toNat : Int) = (bif (decide ((97 : Int) <= (b.toNat : Int)) && decide ((b.toNat : Int) <= 122)) then (IntKind.u8.wrap ((b.toNat : Int) - 32)) else (bif (((b.toNat : Int) == 9) || ((b.toNat : Int) == 13)) then 32 else (b.toNat : Int))) := by
 unfold cvt
 have hb := b.toNat_lt
 by_cases h : 97 <= b.toNat /\ b.toNat <= 122
 ·rw [if_pos h, show (decide ((97 : Int) <= (b.toNat : Int)) && decide ((b.toNat : Int) <= 122)) = true by simp; omega, cond_true]
  rw [UInt8.toNat_sub_of_le _ _ (by show (32 : UInt8).toNat <= b.toNat; have : (32 : UInt8).toNat = 32 := rfl; omega)]
  have : (32 : UInt8).toNat = 32 := rfl
  rw [this]
  have e : IntKind.u8.wrap ((b.toNat : Int) - 32) = (b.toNat : Int) - 32 := by
   unfold IntKind.wrap
   simp [IntKind.signed, IntKind.bits]
   omega
  rw [e]; omega
 ·rw [if_neg h, show (decide ((97 : Int) <= (b.toNat : Int)) && decide ((b.toNat : Int) <= 122)) = false by simp; omega, cond_false]
  by_cases h2 : b = 9 \/ b = 13
  ·rw [if_pos h2]
   rcases h2 with rfl | rfl <;> rfl
  ·rw [if_neg h2, show (((b.toNat : Int) == 9) || ((b.toNat : Int) == 13)) = false by
    rw [Bool.or_eq_false_iff, beq_eq_false_iff_ne, beq_eq_false_iff_ne]
    refine ⟨fun e => h2 (.inl (UInt8.toNat_inj.1 (by show b.toNat = 9; omega))), fun e => h2 (.inr (UInt8.toNat_inj.1 (by show b.toNat = 13; omega)))⟩, cond_false]
theorem SS {b : UInt8} (h : wsF b = false) : cvt b = up b := by
 unfold wsF at h
 simp only [Bool.or_eq_false_iff, beq_eq_false_iff_ne] at h
 unfold cvt up
 split
 ·rfl
 ·rw [if_neg (by rintro (e | e); exact h.2.1 e; exact h.2.2 e)]
theorem SR {b : UInt8} (h : wsF b = true) : cvt b = 32 := by
 unfold wsF at h
 simp only [Bool.or_eq_true, beq_iff_eq] at h
 rcases h with rfl | rfl | rfl <;> rfl
theorem NU (s : T2) : ∀ st : T2 × Bool, (∀ b, st.1.getLast? = some b -> b ≠ 32) -> ∀ b, (s.foldl rfS st).1.getLast? = some b -> b ≠ 32 := by
 induction s with
 | nil => intro st h; exact h
 | cons c s ih =>
  intro st h
  rw [List.foldl_cons]
  apply ih
  unfold rfS
  by_cases hw : wsF c = true
  ·rw [if_pos hw]; exact h
  ·rw [if_neg hw]
   rw [Bool.not_eq_true] at hw
   intro b hb
   simp only [List.getLast?_append, List.getLast?_singleton, Option.some_or, Option.some.injEq] at hb
   rw [<- hb]; exact (Sa hw).2.2
theorem Qs (st : T2 × Bool) (hl : ∀ b, st.1.getLast? = some b -> b ≠ 32) (b : UInt8) :
  BD (rfS st b) = (if cvt b ≠ 32 \/ (BD st ≠ [] /\ (BD st).getLast? ≠ some 32) then BD st ++ [cvt b] else BD st) := by
 by_cases hw : wsF b = true
 ·rw [SR hw]
  have e : rfS st b = (st.1, true) := by unfold rfS; rw [if_pos hw]
  rw [e]
  by_cases h1 : st.1 = []
  ·have o1 : BD (st.1, true) = [] := by unfold BD; rw [if_neg (fun h => h.2 h1)]; exact h1
   have o2 : BD st = [] := by unfold BD; rw [if_neg (fun h => h.2 h1)]; exact h1
   rw [o1, o2, if_neg (by rintro (h | h); exact h rfl; exact h.1 rfl)]
  ·have o1 : BD (st.1, true) = st.1 ++ [32] := by unfold BD; rw [if_pos ⟨rfl, h1⟩]
   by_cases h2 : st.2 = true
   ·have o2 : BD st = st.1 ++ [32] := by unfold BD; rw [if_pos ⟨h2, h1⟩]
    rw [o1, o2, if_neg (by rintro (h | h); exact h rfl; exact h.2 (by simp))]
   ·have o2 : BD st = st.1 := by unfold BD; rw [if_neg (fun h => h2 h.1)]
    rw [o1, o2, if_pos (.inr ⟨h1, fun h => hl _ h rfl⟩)]
 ·rw [Bool.not_eq_true] at hw
  rw [SS hw, if_pos (.inl (Sa hw).2.2)]
  have e : rfS st b = ((if st.2 = true /\ st.1 ≠ [] then st.1 ++ [32] else st.1) ++ [up b], false) := by unfold rfS; rw [if_neg (by rw [hw]; decide)]
  rw [e]
  unfold BD
  simp
theorem QG {l : T2} (h : l ≠ []) (hl : l.length < 4000000000) : ∃ b, l.getLast? = some b /\ idx (Gg l) (W64 (((Gg l).length : Int) - 1)) = some (b.toNat : Int) := by
 have hp : 0 < l.length := List.length_pos_iff.2 h
 refine ⟨l[l.length - 1], by rw [List.getLast?_eq_getElem?, List.getElem?_eq_getElem (by omega)], ?_⟩
 have e : (Gg l).length = l.length := by unfold Gg; simp
 rw [e, Tn l.length (by omega) hp, KR (by rw [e]; omega)]
 unfold Gg
 simp
theorem Pl (s : T2) : (BD (s.foldl rfS ([], false))).length <= s.length := by
 have : ∀ (s : T2) (st : T2 × Bool), (BD (s.foldl rfS st)).length <= (BD st).length + s.length := by
  intro s
  induction s with
  | nil => intro st; simp
  | cons b s ih =>
   intro st
   rw [List.foldl_cons]
   have h := ih (rfS st b)
   have h2 : (BD (rfS st b)).length <= (BD st).length + 1 := by
    unfold rfS BD
    by_cases hw : wsF b = true
    ·rw [if_pos hw]
     by_cases h1 : st.1 = []
     ·rw [h1]; simp
     ·rw [if_pos ⟨rfl, h1⟩]
      split <;> simp
    ·rw [if_neg hw]
     simp
   rw [List.length_cons]; omega
 have := this s ([], false)
 simpa [BD] using this
theorem Sy (s : T2) (hs : s.length < 4000000000) (hN : 4294967300 < N) : D0 N s = some (MF s) := by
 unfold D0
 have h := KP (N := N) (body := DG N s) (fun i => (Gg (BD ((s.take i).foldl rfS ([], false))), (i : Int))) (o := .done (Gg (BD (s.foldl rfS ([], false))), (s.length : Int))) s.length (fun i hi => by
  unfold DG
  simp only
  rw [Lr hi, cond_true, NL hi, Option.bind_some, Om, lw, Option.bind_some]
  rw [List.take_add_one, List.getElem?_eq_getElem hi, List.foldl_append]
  simp only [Option.toList_some, List.foldl_cons, List.foldl_nil]
  have hlast := NU (s.take i) ([], false) (by intro b hb; cases hb)
  have hol := Pl (s.take i)
  have hol2 : (s.take i).length <= s.length := by simp; omega
  generalize hst : (s.take i).foldl rfS ([], false) = st at *
  rw [Qs st hlast s[i]]
  rw [<- RZ s[i]]
  have e32 : ((((cvt s[i]).toNat : Int)) != 32) = decide (cvt s[i] ≠ 32) := by
   by_cases h : cvt s[i] = 32
   ·rw [h]; rfl
   ·rw [decide_eq_true h]
    simp only [bne_iff_ne, ne_eq]
    intro e
    exact h (UInt8.toNat_inj.1 (by show _ = 32; omega))
  have el : ((Gg (BD st)).length : Int) = ((BD st).length : Int) := by unfold Gg; simp
  have ap : ∀ c : UInt8, DC (Gg (BD st)) [(c.toNat : Int)] = some (Gg (BD st ++ [c])) := fun c => by
   unfold DC
   rw [if_pos (by unfold Gg; simp; omega)]
   unfold Gg
   simp
  rw [e32, NG i (by omega)]
  by_cases h1 : cvt s[i] ≠ 32
  ·rw [decide_eq_true h1, cond_true, Option.bind_some, cond_true, ap, Option.bind_some, Option.bind_some, if_pos (.inl h1)]
  ·rw [decide_eq_false h1, cond_false, el]
   by_cases h2 : BD st = []
   ·rw [h2, if_neg (by rintro (h | h); exact h1 h; exact h.1 rfl)]
    rfl
   ·obtain ⟨b, hb1, hb2⟩ := QG h2 (by omega)
    have hp : 0 < (BD st).length := List.length_pos_iff.2 h2
    rw [<- el, hb2, el, decide_eq_true (show ((BD st).length : Int) > 0 by omega), cond_true, Option.bind_some, Option.bind_some]
    have eb : ((b.toNat : Int) != 32) = decide (b ≠ 32) := by
     by_cases h : b = 32
     ·rw [h]; rfl
     ·rw [decide_eq_true h]
      simp only [bne_iff_ne, ne_eq]
      intro e
      exact h (UInt8.toNat_inj.1 (by show _ = 32; omega))
    rw [eb]
    by_cases h3 : b = 32
    ·rw [decide_eq_false (by simpa using h3), if_neg]
     ·rfl
     ·rintro (h | h)
      ·exact h1 h
      ·exact h.2 (by rw [hb1, h3])
    ·rw [decide_eq_true h3, cond_true, ap, Option.bind_some, Option.bind_some, if_pos (.inr ⟨h2, by rw [hb1]; intro e; exact h3 (Option.some.inj e)⟩)]) (by
  unfold DG
  simp only
  rw [I3, cond_false, List.take_length]) (fun _ h => by cases h) (by omega)
 rw [show (([] : List Int), (0 : Int)) = (Gg (BD ((s.take 0).foldl rfS ([], false))), ((0 : Nat) : Int)) from rfl, h]
 show ((strings_TrimSuffix N (toB (Gg (BD (s.foldl rfS ([], false))))) ([32] : T2)).bind _) = _
 have hol := Pl s
 rw [P9]
 unfold strings_TrimSuffix
 rw [if_pos (by omega)]
 show some (Go.Lib.trimSuffix _ _) = _
 have hlast := NU s ([], false) (by intro b hb; cases hb)
 have e : Go.Lib.trimSuffix (BD (s.foldl rfS ([], false))) [32] = MF s := by
  unfold MF
  generalize s.foldl rfS ([], false) = st at *
  unfold BD Go.Lib.trimSuffix
  by_cases h : st.2 = true /\ st.1 ≠ []
  ·rw [if_pos h, if_pos (by unfold Go.Lib.hasSuffix; rw [List.isSuffixOf_iff_suffix]; exact List.suffix_append _ _)]
   simp
  ·rw [if_neg h, if_neg]
   unfold Go.Lib.hasSuffix
   rw [List.isSuffixOf_iff_suffix]
   rintro ⟨t, ht⟩
   exact hlast 32 (by rw [<- ht]; simp) rfl
 rw [e]
end





section
open Go.Lib (decDigits)
section
variable {N : Nat}
theorem dI {n : Int} (h0 : 0 <= n) (h : n <= 1000000000) : strconv_Itoa N n = some (decDigits n.toNat) := by
 have := M6 (N := N) n.toNat (by omega)
 rwa [show ((n.toNat : Nat) : Int) = n by omega] at this
theorem Ta {m : Int} (h : 1 <= m /\ m <= 3) : K0 ([32, 77, 86, 68] : T2) m (W64 (m + 1)) = some (Iw m) := by
 have : m = 1 \/ m = 2 \/ m = 3 := by omega
 rcases this with rfl | rfl | rfl <;> rfl
def prL (o : Ac) (x : Line) : T2 × Int := if Cc o x = true then (BF o x, 0) else ([], 1)
theorem prT {x : Line} {o : Ac} (h : OkL o x) : DW x.Minute = (Ev x.Minute.toNat, 0) := by
 unfold DW; rw [if_pos ⟨h.t.1, h.t.2⟩]
theorem S5 {o : Ac} {E : Ad} (h : Cs o E = true) : FY o E = (Eu o E, 0) := by
 unfold FY; rw [if_pos h]
theorem G2 (o : Ac) (x : Line) (hx : OV x) (hN : 4294967300 < N) : BR N o x = some (prL o x) := by
 unfold BR prL
 show (BQ N o x).bind _ = _
 rw [Po o x hx hN, Option.bind_some]
 cases hv : Cc o x with
 | false => rfl
 | true =>
  have h := BZ.1 hv
  rw [Bool.not_true, cond_false, if_pos rfl]
  show ((Cb N x.Minute).bind fun r38 => (A5 N o x.Sent).bind fun r46 => (A5 N o x.Got).bind fun r54 => _) = _
  have hl := N3 h
  have ht := PR o x
  rw [J1, K6 _ _ hN, K6 _ _ hN, prT h, S5 h.s, S5 h.g, Ta h.m, dI (by have := h.n; omega) (by have := h.n; omega), dI (by have := h.k; omega) (by have := h.k; omega)]
  simp only [Option.bind_some]
  unfold strings_Join
  rw [show Go.Lib.join [([81, 83, 79] : T2), decDigits x.Num.toNat, decDigits x.Khz.toNat, Iw x.Mode, Ev x.Minute.toNat, x.Call, [62], Eu o x.Sent, [60], Eu o x.Got] [32] = BF o x from ht, if_pos ⟨by simp, by omega⟩]
  rfl
end
end























section
variable {N : Nat}
theorem R6 {α : Type} [DecidableEq α] [BEq α] [LawfulBEq α] (x y : α) : (x == y) = decide (x = y) := by
 by_cases h : x = y
 ·subst h; simp
 ·rw [decide_eq_false h]; simpa using h
theorem RR (x y : Line) : ((x.Num == y.Num) && ((x.Khz == y.Khz) && ((x.Mode == y.Mode) && ((x.Minute == y.Minute) && ((x.Call == y.Call) && (((x.Sent.Report == y.Sent.Report) && ((x.Sent.Serial == y.Sent.Serial) && ((x.Sent.Zone == y.Sent.Zone) && true))) && (((x.Got.Report == y.Got.Report) && ((x.Got.Serial == y.Got.Serial) && ((x.Got.Zone == y.Got.Zone) && true))) && true))))))) = decide (x = y) := by
 obtain ⟨a, b, c, d, e, ⟨s1, s2, s3⟩, ⟨g1, g2, g3⟩⟩ := x
 obtain ⟨a', b', c', d', e', ⟨s1', s2', s3'⟩, ⟨g1', g2', g3'⟩⟩ := y
 rw [Bool.eq_iff_iff]
 simp only [Bool.and_eq_true, beq_iff_eq, and_true, decide_eq_true_eq, Line.mk.injEq, Ad.mk.injEq]
end
section
variable {N : Nat}
theorem Qd {α : Type} {l : List α} {i j : Nat} (h : i <= j) (hj : j <= l.length) : sub l (i : Int) (j : Int) = some ((l.take j).drop i) := by
 unfold sub
 rw [if_pos ⟨by omega, by omega, by omega⟩]
 simp
end
def Dh (N : Nat) (x0 : Ac) (x1 : Line) (x2 : T2) : Option Bool :=
 ((G9 N ).bind fun r27 => (bif ((decide ((x1.Call.length : Int) > 40)) || (decide ((x2.length : Int) > 300))) then some r27 else ((BR N ({ Report := x0.Report, Serial := x0.Serial, Zone := x0.Zone } : Ac) x1).bind fun r48 => ((BS N ({ Report := x0.Report, Serial := x0.Serial, Zone := x0.Zone } : Ac) r48.1).bind fun r56 => (((BQ N ({ Report := x0.Report, Serial := x0.Serial, Zone := x0.Zone } : Ac) x1).bind fun r80 => (bif (!((r48.2 == 0) == r80)) then some true else (bif (r48.2 == 0) then (bif (r56.2 != 0) then some true else (bif (!((r56.1.Num == x1.Num) && ((r56.1.Khz == x1.Khz) && ((r56.1.Mode == x1.Mode) && ((r56.1.Minute == x1.Minute) && ((r56.1.Call == x1.Call) && (((r56.1.Sent.Report == x1.Sent.Report) && ((r56.1.Sent.Serial == x1.Sent.Serial) && ((r56.1.Sent.Zone == x1.Sent.Zone) && true))) && (((r56.1.Got.Report == x1.Got.Report) && ((r56.1.Got.Serial == x1.Got.Serial) && ((r56.1.Got.Zone == x1.Got.Zone) && true))) && true)))))))) then some true else ((D0 N r48.1).bind fun r100 => some (r100 != r48.1)))) else some false))).bind fun j72 => (bif j72 then some false else ((BS N ({ Report := x0.Report, Serial := x0.Serial, Zone := x0.Zone } : Ac) x2).bind fun r111 => (bif (r111.2 != 0) then some (r27 && ((r111.2 == 20) && ((r111.1.Num == 0) && ((r111.1.Khz == 0) && ((r111.1.Mode == 0) && ((r111.1.Minute == 0) && ((r111.1.Call == ([] : T2)) && (((r111.1.Sent.Report == 0) && ((r111.1.Sent.Serial == 0) && ((r111.1.Sent.Zone == 0) && true))) && (((r111.1.Got.Report == 0) && ((r111.1.Got.Serial == 0) && ((r111.1.Got.Zone == 0) && true))) && true))))))))) else ((BR N ({ Report := x0.Report, Serial := x0.Serial, Zone := x0.Zone } : Ac) r111.1).bind fun r134 => some (r27 && ((r134.2 == 0) && (r134.1 == x2))))))))))))
theorem Jr (N : Nat) (w0 : World) (F0 : Mem) (hF : T4 w0 F0) (hG : Bl F0) (x0 : Ac) (x1 : Line) (x2 : T2) (r : Bool) (h : Dh N x0 x1 x2 = some r) :
  Calls Tryz.prog 7 ([(.agg (Ai x0)), (.agg (BI x1)), (sv x2)] : List Value).toArray w0 (Az w0 F0 fun F' v => v = (.bool r)) := by
 have hs0 := TJ hF
 refine Go 98 Tryz.func7 <| Sq (Rg [0, 1, 2] ?_)
 refine Bx' 23 (Ai x0) hs0 (fun b21 w22 hs23 => ?_)
 refine Bx' 34 (BI x1) hs23 (fun b24 w25 hs26 => ?_)
 refine Vs 1 <| Nss (Rg [0, 1] ?_)
 obtain ⟨r27, hr28, h29⟩ := bind_some h
 refine Cl' LP hs26 (Mh N w25 F0 hs26.pers hG  _ hr28) ?_
 rintro _ F1 w31 hs32 le33 rfl
 refine Vs 1 <| Nss <| Sq (Rg (rG 9) ?_)
 refine TN (fun f w => ∃ (F2 : Mem), HS w0 F0 w F2 [(sb b24 (BI x1) 34), (sb b21 (Ai x0) 23)] /\ TH F1 F2 /\ FI f [] [(2, (sv x2)), (3, (pt b21 0)), (4, (pt b24 0)), (7, (.bool r27)), (25, (.bool ((decide ((x1.Call.length : Int) > 40)) || (decide ((x2.length : Int) > 300)))))]) ?_ ?_
 ·refine Vs 1 ?_
  refine Ld hs32.at0 <| Vs 3 <| TM (decide ((x1.Call.length : Int) > 40)) (fun hb44 => ?_) (fun hb44 => ?_)
  ·refine Ss hb44 3 ?_
   refine Pk1 hb44 ?_
   exact TD ⟨rfl, F1, hs32, (TI _), (fJ ⟨rfl, rfl, rfl, rfl, (congrArg Value.bool (GL hb44 rfl)), trivial⟩)⟩
  ·refine Vgs hb44 3 ?_
   refine Pk0 hb44 ?_
   exact TD ⟨rfl, F1, hs32, (TI _), (fJ ⟨rfl, rfl, rfl, rfl, (congrArg Value.bool (CV hb44 rfl)), trivial⟩)⟩
 ·rintro f w35 ⟨F2, hs36, le37, ⟨_, rfl⟩⟩
  refine Ab <| Cd h29 (fun hb45 h46 => ?_) (fun hb45 h47 => ?_)
  ·refine Sq (Rg [0, 1] ?_)
   refine Vs 2 <| Nt <| Rt <| Am ?_
   obtain rfl := Aa h46
   exact Re [(.bool r27)] hs36 rfl
  ·refine Sc ?_
   refine Ab <| Sq (Rg (rG 8) ?_)
   refine Ld hs36.at1 <| Ld hs36.at0 ?_
   obtain ⟨r48, hr49, h50⟩ := bind_some h47
   refine Cl' CI hs36 (CZ N w35 F2 hs36.pers (hG.mono (le33.t le37)) (({ Report := x0.Report, Serial := x0.Serial, Zone := x0.Zone } : Ac)) x1 _ hr49) ?_
   rintro _ F3 w52 hs53 le54 rfl
   refine Vs 5 <| Nss (Rg (rG 9) ?_)
   refine Ld hs53.at1 <| Vs 1 ?_
   obtain ⟨r56, hr57, h58⟩ := bind_some h50
   refine Cl' CJ hs53 (C2 N w52 F3 hs53.pers (hG.mono ((le33.t le37).trans le54)) (({ Report := x0.Report, Serial := x0.Serial, Zone := x0.Zone } : Ac)) r48.1 _ hr57) ?_
   rintro _ F4 w60 hs61 le62 rfl
   refine Vs 3 <| Al' 34 #[(vi 0), (vi 0), (vi 0), (vi 0), (sv (([] : T2))), (vi 0), (vi 0), (vi 0), (vi 0), (vi 0), (vi 0)] hs61 (fun b64 w65 hs66 => ?_)
   refine St0 (BI r56.1) hs66 (fun w67 hs68 => ?_)
   refine Vs 1 <| Nss <| Sq (Rg (rG 25) ?_)
   obtain ⟨j72, hj78, h79⟩ := bind_some h58
   refine TN (fun f w => ∃ (F5 : Mem), HS w0 F0 w F5 [(sb b21 (Ai x0) 23)] /\ TH F4 F5 /\ FI f [] [(2, (sv x2)), (3, (pt b21 0)), (7, (.bool r27)), (63, (.bool j72))]) ?_ ?_
   ·refine Vs 2 ?_
    refine Ld hs68.at2 <| Ld hs68.at1 ?_
    obtain ⟨r80, hr81, h82⟩ := bind_some hj78
    refine Cl' DK hs68 (D3 N w67 F4 hs68.pers (({ Report := x0.Report, Serial := x0.Serial, Zone := x0.Zone } : Ac)) x1 _ hr81) ?_
    rintro _ F6 w84 hs85 le86 rfl
    refine Vs 2 <| Sp h82 (fun hb88 h89 => ?_) (fun hb88 h90 => ?_)
    ·refine Ss hb88 3 ?_
     refine Su' 3 <| Su' 3 <| Su' 2 <| Su' 4 <| Su' 1 <| Ss hb88 1 <| Pk1 hb88 ?_
     obtain rfl := Aa h89
     exact TD ⟨rfl, F6, hs85.dr0.dr0, le86, fI⟩
    ·refine Vgs hb88 3 ?_
     refine Sp h90 (fun hb91 h92 => ?_) (fun hb91 h93 => ?_)
     ·refine Vgs hb91 3 ?_
      refine Sp h92 (fun hb94 h95 => ?_) (fun hb94 h96 => ?_)
      ·refine Ss hb94 3 ?_
       refine Pg1 hb91 hb94 <| Vgs hb91 1 <| Ss (rfl : true = true) 4 <| Pg1 hb91 (rfl : true = true) <| Pg1 hb88 hb91 <| Pk0 hb88 ?_
       obtain rfl := Aa h95
       exact TD ⟨rfl, F6, hs85.dr0.dr0, le86, fI⟩
      ·refine Lg hb94 hs85.at0 ?_
       refine Lg hb94 hs85.at1 <| Vgs hb94 1 <| Pg0 hb91 hb94 <| Vgs hb91 1 <| Sp h96 (fun hb97 h98 => ?_) (fun hb97 h99 => ?_)
       ·refine Ss hb97 4 ?_
        refine Pg1 hb91 hb97 <| Pg1 hb88 hb91 <| Pk0 hb88 ?_
        obtain rfl := Aa h98
        exact TD ⟨rfl, F6, hs85.dr0.dr0, le86, fI⟩
       ·refine Vgs hb97 1 ?_
        obtain ⟨r100, hr101, h102⟩ := bind_some h99
        refine Cg hb97 Gm hs85 (Hw N w84 F6 hs85.pers r48.1 _ hr101) ?_
        rintro _ F7 w104 hs105 le106 rfl
        refine Vgs hb97 2 <| Pg0 hb91 hb97 <| Pg1 hb88 hb91 <| Pk0 hb88 ?_
        obtain rfl := Aa h102
        exact TD ⟨rfl, F7, hs105.dr0.dr0, (le86.t le106), fI⟩
     ·refine Ss hb91 3 ?_
      refine Su' 3 <| Ss hb91 2 <| Su' 4 <| Ss hb91 1 <| Pg0 hb88 hb91 <| Pk0 hb88 ?_
      obtain rfl := Aa h93
      exact TD ⟨rfl, F6, hs85.dr0.dr0, le86, fI⟩
   ·rintro f w69 ⟨F5, hs70, le71, ⟨_, rfl⟩⟩
    refine Ab <| Cd h79 (fun hb108 h109 => ?_) (fun hb108 h110 => ?_)
    ·refine Sq (Rg [0] ?_)
     refine Vs 1 <| Nt <| Rt <| Am ?_
     obtain rfl := Aa h109
     exact Re [(.bool false)] hs70 rfl
    ·refine Sc ?_
     refine Ab <| Sq (Rg (rG 9) ?_)
     refine Ld hs70.at0 <| Vs 1 ?_
     obtain ⟨r111, hr112, h113⟩ := bind_some h110
     refine Cl' CJ hs70 (C2 N w69 F5 hs70.pers (hG.mono ((((le33.t le37).trans le54).trans le62).trans le71)) (({ Report := x0.Report, Serial := x0.Serial, Zone := x0.Zone } : Ac)) x2 _ hr112) ?_
     rintro _ F8 w115 hs116 le117 rfl
     refine Vs 3 <| Al' 34 #[(vi 0), (vi 0), (vi 0), (vi 0), (sv (([] : T2))), (vi 0), (vi 0), (vi 0), (vi 0), (vi 0), (vi 0)] hs116 (fun b119 w120 hs121 => ?_)
     refine St0 (BI r111.1) hs121 (fun w122 hs123 => ?_)
     refine Vs 1 <| Nss <| Sq (Rg [0, 1] ?_)
     refine Vs 2 <| Nt <| Cd h113 (fun hb124 h125 => ?_) (fun hb124 h126 => ?_)
     ·refine Sq (Rg (rG 11) ?_)
      refine TN (fun f w => ∃ (F9 : Mem), HS w0 F0 w F9 [] /\ TH F8 F9 /\ FI f [] [(6, (.bool (r27 && ((r111.2 == 20) && ((r111.1.Num == 0) && ((r111.1.Khz == 0) && ((r111.1.Mode == 0) && ((r111.1.Minute == 0) && ((r111.1.Call == ([] : T2)) && (((r111.1.Sent.Report == 0) && ((r111.1.Sent.Serial == 0) && ((r111.1.Sent.Zone == 0) && true))) && (((r111.1.Got.Report == 0) && ((r111.1.Got.Serial == 0) && ((r111.1.Got.Zone == 0) && true))) && true)))))))))))]) ?_ ?_
      ·refine Vs 2 ?_
       refine TM r27 (fun hb132 => ?_) (fun hb132 => ?_)
       ·refine Vgs hb132 2 ?_
        refine Pk1 hb132 <| Vs 1 <| TM (r111.2 == 20) (fun hb133 => ?_) (fun hb133 => ?_)
        ·refine Lg hb133 hs123.at0 ?_
         refine Vgs hb133 2 <| Pk1 hb133 <| Vs 1 ?_
         exact TD ⟨rfl, F8, hs123.dr0.dr0, (TI _), (fJ ⟨(kq (.bool ((r111.1.Num == 0) && ((r111.1.Khz == 0) && ((r111.1.Mode == 0) && ((r111.1.Minute == 0) && ((r111.1.Call == ([] : T2)) && (((r111.1.Sent.Report == 0) && ((r111.1.Sent.Serial == 0) && ((r111.1.Sent.Zone == 0) && true))) && (((r111.1.Got.Report == 0) && ((r111.1.Got.Serial == 0) && ((r111.1.Got.Zone == 0) && true))) && true)))))))) (congrArg Value.bool (Hz hb132 (Hz hb133 rfl)))), trivial⟩)⟩
        ·refine Ss hb133 3 ?_
         refine Pk0 hb133 <| Vs 1 ?_
         exact TD ⟨rfl, F8, hs123.dr0.dr0, (TI _), (fJ ⟨(congrArg Value.bool (Hz hb132 (Jv hb133 rfl))), trivial⟩)⟩
       ·refine Ss hb132 2 ?_
        refine Pk0 hb132 <| Vs 1 <| Ss (rfl : false = false) 3 <| Pk0 (rfl : false = false) <| Vs 1 ?_
        exact TD ⟨rfl, F8, hs123.dr0.dr0, (TI _), (fJ ⟨(congrArg Value.bool (Jv hb132 rfl)), trivial⟩)⟩
      ·rintro f w127 ⟨F9, hs128, le129, ⟨_, rfl⟩⟩
       refine Ab <| Rt <| Am ?_
       obtain rfl := Aa h125
       exact Re [(.bool (r27 && ((r111.2 == 20) && ((r111.1.Num == 0) && ((r111.1.Khz == 0) && ((r111.1.Mode == 0) && ((r111.1.Minute == 0) && ((r111.1.Call == ([] : T2)) && (((r111.1.Sent.Report == 0) && ((r111.1.Sent.Serial == 0) && ((r111.1.Sent.Zone == 0) && true))) && (((r111.1.Got.Report == 0) && ((r111.1.Got.Serial == 0) && ((r111.1.Got.Zone == 0) && true))) && true))))))))))] hs128 rfl
     ·refine Sc ?_
      refine Ab <| Sq (Rg (rG 8) ?_)
      refine Ld hs123.at1 <| Ld hs123.at0 ?_
      obtain ⟨r134, hr135, h136⟩ := bind_some h126
      refine Cl' CI hs123 (CZ N w122 F8 hs123.pers (hG.mono (((((le33.t le37).trans le54).trans le62).trans le71).trans le117)) (({ Report := x0.Report, Serial := x0.Serial, Zone := x0.Zone } : Ac)) r111.1 _ hr135) ?_
      rintro _ F10 w138 hs139 le140 rfl
      refine Vs 5 <| Nss (Rg (rG 11) ?_)
      refine TN (fun f w => ∃ (F11 : Mem), HS w0 F0 w F11 [] /\ TH F10 F11 /\ FI f [] [(6, (.bool (r27 && ((r134.2 == 0) && (r134.1 == x2)))))]) ?_ ?_
      ·refine Vs 2 ?_
       refine TM r27 (fun hb147 => ?_) (fun hb147 => ?_)
       ·refine Vgs hb147 2 ?_
        refine Pk1 hb147 <| Vs 1 <| TM (r134.2 == 0) (fun hb148 => ?_) (fun hb148 => ?_)
        ·refine Vgs hb148 3 ?_
         refine Pk1 hb148 <| Vs 1 ?_
         exact TD ⟨rfl, F10, hs139.dr0.dr0, (TI _), (fJ ⟨(congrArg Value.bool (Hz hb147 (Hz hb148 rfl))), trivial⟩)⟩
        ·refine Ss hb148 3 ?_
         refine Pk0 hb148 <| Vs 1 ?_
         exact TD ⟨rfl, F10, hs139.dr0.dr0, (TI _), (fJ ⟨(congrArg Value.bool (Hz hb147 (Jv hb148 rfl))), trivial⟩)⟩
       ·refine Ss hb147 2 ?_
        refine Pk0 hb147 <| Vs 1 <| Ss (rfl : false = false) 3 <| Pk0 (rfl : false = false) <| Vs 1 ?_
        exact TD ⟨rfl, F10, hs139.dr0.dr0, (TI _), (fJ ⟨(congrArg Value.bool (Jv hb147 rfl)), trivial⟩)⟩
      ·rintro f w142 ⟨F11, hs143, le144, ⟨_, rfl⟩⟩
       refine Ab <| Rt ?_
       obtain rfl := Aa h136
       exact Re [(.bool (r27 && ((r134.2 == 0) && (r134.1 == x2))))] hs143 rfl
section
open Go.Lib (decDigits)
def QE : Line := { Num := 0, Khz := 0, Mode := 0, Minute := 0, Call := [], Sent := { Report := 0, Serial := 0, Zone := 0 }, Got := { Report := 0, Serial := 0, Zone := 0 } }
noncomputable def paL (o : Ac) (s : T2) : Line × Int := match Lj o s with
 | some x => (x, 0)
 | none => (QE, 20)
theorem M1 {o : Ac} {x : Line} (h : Cc o x = true) : paL o (BF o x) = (x, 0) := by
 unfold paL; rw [E6.2 ⟨h, rfl⟩]
theorem G1 {o : Ac} {s : T2} (h : ∀ x, Cc o x = true -> BF o x ≠ s) : paL o s = (QE, 20) := by
 unfold paL; rw [NW.2 h]
theorem Fg {α : Type} {l : List α} (n : Nat) {w : α} (h : l[n]? = some w) : idx l (n : Int) = some w := by
 have hn : n < l.length := by
  rcases Nat.lt_or_ge n l.length with h' | h'
  ·exact h'
  ·rw [List.getElem?_eq_none h'] at h; cases h
 rw [KR hn]
 rwa [List.getElem?_eq_getElem hn] at h
def Kj (l : List T2) : Nat := (l.map fun w => w.length + 1).sum
theorem Ly : ∀ (l : List T2), (jn l).length = Kj l - 1
 | [] => rfl
 | [x] => by rw [DI]; simp [Kj]
 | x :: y :: l => by
  have ih := Ly (y :: l)
  rw [Dj (by simp), List.length_append, List.length_cons, ih]
  simp only [Kj, List.map_cons, List.sum_cons]
  omega
theorem Lv {a b : List T2} (h : a.Sublist b) : Kj a <= Kj b := by
 induction h with
 | slnil => exact Nat.le_refl _
 | cons x _ ih => simp only [Kj, List.map_cons, List.sum_cons] at ih ⊢; omega
 | cons_cons x _ ih => simp only [Kj, List.map_cons, List.sum_cons] at ih ⊢; omega
theorem Lw (l : List T2) : l.length <= Kj l := by
 induction l with
 | nil => exact Nat.le_refl _
 | cons x l ih => simp only [Kj, List.map_cons, List.sum_cons, List.length_cons] at ih ⊢; omega
theorem Pi (s : T2) : Kj (pcs 32 s) = s.length + 1 := by
 have h1 := Ly (pcs 32 s)
 have h2 := Lw (pcs 32 s)
 have h3 := Pj 32 s
 rw [SB] at h1
 omega
theorem P5 {s w : T2} (h : w ∈ pcs 32 s) : w.length <= s.length := by
 have h1 := Lv (List.singleton_sublist.2 h)
 rw [Pi] at h1
 simp only [Kj, List.map_cons, List.map_nil, List.sum_cons, List.sum_nil] at h1
 omega
section
variable {N : Nat}
theorem QC (l : List T2) (w : T2) (hl : l.length < 4000000000) (hN : 4294967300 < N) :
  (∃ k, ∃ h : k < l.length, AL N l w = some (k : Int) /\ l[k] = w /\ ∀ y, y ∈ l.take k -> y ≠ w) \/ (AL N l w = some (-1) /\ w ∉ l) := by
 have hb : ∀ i (h : i < l.length), AB N l w (i : Int) = some (bif decide (w = l[i]) then .ret (i : Int) else .next ((i + 1 : Nat) : Int)) := fun i h => by
  unfold AB
  rw [Lr h, cond_true, KR h, Option.bind_some, R6, NG i (by omega)]
  cases decide (w = l[i]) <;> rfl
 by_cases hw : w ∈ l
 ·have hex : ∃ k, ∃ h : k < l.length, l[k] = w /\ ∀ i (hi : i < l.length), i < k -> l[i] ≠ w := by
   obtain ⟨j, hj, e⟩ := List.getElem_of_mem hw
   have : ∀ n j, j <= n -> ∀ hj : j < l.length, l[j] = w -> ∃ k, ∃ h : k < l.length, l[k] = w /\ ∀ i (hi : i < l.length), i < k -> l[i] ≠ w := by
    intro n
    induction n with
    | zero => intro j hjn hj e; exact ⟨j, hj, e, fun i _ hij => by omega⟩
    | succ n ih =>
     intro j hjn hj e
     by_cases hx : ∃ i, ∃ h : i < l.length, i < j /\ l[i] = w
     ·obtain ⟨i, hi, hij, e'⟩ := hx
      exact ih i (by omega) hi e'
     ·exact ⟨j, hj, e, fun i hi hij e' => hx ⟨i, hi, hij, e'⟩⟩
   exact this j j (Nat.le_refl _) hj e
  obtain ⟨k, hk, e, hm⟩ := hex
  refine .inl ⟨k, hk, ?_, e, fun y hy => ?_⟩
  ·unfold AL
   have := KP (N := N) (body := AB N l w) (fun i => (i : Int)) (o := .ret (k : Int)) k (fun i hi => by
    rw [hb i (by omega), decide_eq_false (fun e' => hm i (by omega) hi e'.symm)]; rfl) (by rw [hb k hk, decide_eq_true e.symm]; rfl) (fun _ h => by cases h) (by omega)
   rw [show (0 : Int) = ((0 : Nat) : Int) from rfl, this]
   rfl
  ·rw [List.mem_take_iff_getElem] at hy
   obtain ⟨j, hj, rfl⟩ := hy
   exact hm j (by omega) (by omega)
 ·refine .inr ⟨?_, hw⟩
  unfold AL
  have := KP (N := N) (body := AB N l w) (fun i => (i : Int)) (o := .done (l.length : Int)) l.length (fun i hi => by
   rw [hb i hi, decide_eq_false (fun e' => hw (by rw [e']; exact List.getElem_mem hi))]; rfl) (by
   unfold AB
   rw [I3, cond_false]) (fun _ h => by cases h) (by omega)
  rw [show (0 : Int) = ((0 : Nat) : Int) from rfl, this]
  rfl
theorem MA (w : T2) (hw : w.length < 4000000000) : ∃ r, AW N w = some r := by
 have hb := @Go.Lib.atoiAll_bounds w
 have hs := Go.Lib.atoiSat_bounds w
 unfold AW Ct
 rw [if_pos (by omega)]
 cases h : Go.Lib.atoiAll w with
 | ok v =>
  have := hb h
  rw [Option.bind_some]
  simp only [Bool.not_false, cond_true]
  unfold strconv_Itoa
  rw [if_pos (by omega)]
  exact ⟨_, rfl⟩
 | range => exact ⟨_, rfl⟩
 | _ => exact ⟨_, rfl⟩
theorem I0 (u : Nat) (h : u <= 100000000) : ∃ b, AW N (decDigits u) = some ((u : Int), b) := by
 have hl : (decDigits u).length <= 9 := Iy 8 u (by omega)
 unfold AW Ct
 rw [if_pos (by omega), Go.Lib.atoiAll_short _ (by omega), Oj (Iz u) (by have := Nl u; omega), LL]
 rw [show (Go.Lib.NumEnd.ofOption (some (u : Int))) = .ok (u : Int) from rfl]
 simp only [Option.bind_some, Bool.not_false, cond_true]
 rw [M6 u (by omega)]
 exact ⟨_, rfl⟩
theorem OQ {m : Int} (h : 1 <= m /\ m <= 3) : strings_Index N ([32, 77, 86, 68] : T2) (Iw m) = some m := by
 have : m = 1 \/ m = 2 \/ m = 3 := by omega
 rcases this with rfl | rfl | rfl <;> rfl
theorem pT {t : T2} (h : t.length < 4294967281) : Ef N t = some (FZ t) := if_pos h
theorem pX {L : Ac} {t : T2} (h : t.length < 4294967281) : B9 N L t = some (BM L t) := if_pos h
theorem QB {m : List T2} (h : Kj m < 4294967296) : strings_Join N m [32] = some (jn m) := by
 have h1 := Ly m
 have h2 := Lw m
 unfold jn at h1
 unfold strings_Join
 rw [if_pos ⟨by omega, by omega⟩]; rfl
structure SX (o : Ac) (l : List T2) (k : Nat) (x : Line) : Prop where
 a : l[1]? = some (decDigits x.Num.toNat)
 b : l[2]? = some (decDigits x.Khz.toNat)
 c : l[3]? = some (Iw x.Mode)
 d : ∀ t u, l[4]? = some t -> l[5]? = some u -> t ++ [32] ++ u = Ev x.Minute.toNat
 e : l[6]? = some x.Call
 f : l[7]? = some [62]
 n : 9 <= l.length /\ 8 <= k
 s : (l.take k).drop 8 = fsw o x.Sent
 g : l.drop (k + 1) = fsw o x.Got
theorem Tt {o : Ac} {x : Line} (h : Cc o x = true) {k : Nat} (hk : k < (pcs 32 (BF o x)).length) (h60 : (pcs 32 (BF o x))[k] = [60]) (hp : ∀ y, y ∈ (pcs 32 (BF o x)).take k -> y ≠ [60]) : SX o (pcs 32 (BF o x)) k x := by
 have hx := BZ.1 h
 have hl := Gf hx
 generalize pcs 32 (BF o x) = l at *
 have h1 : l = l.take k ++ [60] :: l.drop (k + 1) := by
  rw [<- h60, List.getElem_cons_drop, List.take_append_drop]
 have h2 : Dw o x = (GD x ++ fsw o x.Sent) ++ [60] :: fsw o x.Got := by unfold Dw; rw [List.append_assoc]
 obtain ⟨e1, e2⟩ := K1 (a := l.take k) (b := l.drop (k + 1)) (c := GD x ++ fsw o x.Sent) (d := fsw o x.Got) hp (by
  intro w hw
  rcases List.mem_append.1 hw with h' | h'
  ·exact (MD hx w h').2
  ·exact (EO hx.s w h').2.1) (by rw [<- h1, <- h2, hl])
 have hk8 : k = 8 + (fsw o x.Sent).length := by
  have := congrArg List.length e1
  rw [List.length_take, List.length_append, ME] at this
  omega
 refine ⟨by rw [hl]; rfl, by rw [hl]; rfl, by rw [hl]; rfl, fun t u ht hu => ?_, by rw [hl]; rfl, by rw [hl]; rfl, ⟨by omega, by omega⟩, by rw [e1]; rfl, e2⟩
 rw [hl] at ht hu
 have : Ev x.Minute.toNat = jn (tW x.Minute.toNat) := NH _
 rw [this]
 unfold tW
 rw [Dj (by simp), DI]
 have ht' : some (decDigits (x.Minute.toNat / 1440 + 1)) = some t := ht
 have hu' : some (dP 2 (x.Minute.toNat / 60 % 24) ++ dP 2 (x.Minute.toNat % 60)) = some u := hu
 cases ht'; cases hu'
 simp
theorem J7 (o : Ac) (s : T2) (hs : s.length <= 1000000000) (hN : 4294967300 < N) : BS N o s = some (paL o s) := by
 unfold BS
 rw [show ({ Report := o.Report, Serial := o.Serial, Zone := o.Zone } : Ac) = o from rfl, M5 32 (by omega), Option.bind_some]
 have hsum := Pi s
 have hlen := Lw (pcs 32 s)
 have hwl : ∀ w, w ∈ pcs 32 s -> w.length <= s.length := fun w hw => P5 hw
 have hhit : ∀ {x : Line} {k : Nat} (h : Cc o x = true) (he : BF o x = s) (hk : k < (pcs 32 s).length) (h60 : (pcs 32 s)[k] = [60]) (hp : ∀ y, y ∈ (pcs 32 s).take k -> y ≠ [60]), SX o (pcs 32 s) k x := by
  intro x k h he hk h60 hp
  subst he
  exact Tt h hk h60 hp
 have hsix : ∀ {x : Line} (h : Cc o x = true) (he : BF o x = s), [60] ∈ pcs 32 s := by
  intro x h he
  subst he
  rw [Gf (BZ.1 h)]
  unfold Dw; simp
 generalize pcs 32 s = l at *
 rcases QC (N := N) l [60] (by omega) hN with ⟨k, hk, hi, h60, hp⟩ | ⟨hi, hno⟩
 ·rw [hi, Option.bind_some]
  by_cases hg : 9 <= l.length /\ 8 <= k /\ l[7]? = some [62]
  ·obtain ⟨g1, g2, g3⟩ := hg
   rw [decide_eq_false (show ¬ (l.length : Int) < 9 by omega), cond_false, decide_eq_false (show ¬ (k : Int) < 8 by omega), cond_false, show idx l 7 = some [62] from Fg 7 g3]
   rw [show ((some ([62] : T2)).bind fun x62 => some (x62 != ([62] : T2))) = some false from rfl, Option.bind_some, cond_false]
   have hit : ∀ x, Cc o x = true -> BF o x = s -> SX o l k x := fun x h he => hhit h he hk h60 hp
   obtain ⟨w1, e1⟩ : ∃ w, l[1]? = some w := ⟨_, List.getElem?_eq_getElem (by omega)⟩
   obtain ⟨w2, e2⟩ : ∃ w, l[2]? = some w := ⟨_, List.getElem?_eq_getElem (by omega)⟩
   obtain ⟨w3, e3⟩ : ∃ w, l[3]? = some w := ⟨_, List.getElem?_eq_getElem (by omega)⟩
   obtain ⟨w4, e4⟩ : ∃ w, l[4]? = some w := ⟨_, List.getElem?_eq_getElem (by omega)⟩
   obtain ⟨w5, e5⟩ : ∃ w, l[5]? = some w := ⟨_, List.getElem?_eq_getElem (by omega)⟩
   obtain ⟨w6, e6⟩ : ∃ w, l[6]? = some w := ⟨_, List.getElem?_eq_getElem (by omega)⟩
   have z1 := hwl _ (List.mem_of_getElem? e1)
   have z2 := hwl _ (List.mem_of_getElem? e2)
   have z4 := hwl _ (List.mem_of_getElem? e4)
   have z5 := hwl _ (List.mem_of_getElem? e5)
   have z6 := hwl _ (List.mem_of_getElem? e6)
   have n1 : ∃ r, AW N w1 = some r /\ ∀ x, Cc o x = true -> BF o x = s -> r.1 = x.Num := by
    obtain ⟨r, hr⟩ := MA (N := N) w1 (by omega)
    refine ⟨r, hr, fun x h he => ?_⟩
    have H := (hit x h he).a
    have hx := (BZ.1 h).n
    rw [e1] at H
    cases H
    obtain ⟨b, hb⟩ := I0 (N := N) x.Num.toNat (by omega)
    rw [hb] at hr
    cases hr
    show ((x.Num.toNat : Nat) : Int) = x.Num
    omega
   have n2 : ∃ r, AW N w2 = some r /\ ∀ x, Cc o x = true -> BF o x = s -> r.1 = x.Khz := by
    obtain ⟨r, hr⟩ := MA (N := N) w2 (by omega)
    refine ⟨r, hr, fun x h he => ?_⟩
    have H := (hit x h he).b
    have hx := (BZ.1 h).k
    rw [e2] at H
    cases H
    obtain ⟨b, hb⟩ := I0 (N := N) x.Khz.toNat (by omega)
    rw [hb] at hr
    cases hr
    show ((x.Khz.toNat : Nat) : Int) = x.Khz
    omega
   have n3 : ∃ r, strings_Index N ([32, 77, 86, 68] : T2) w3 = some r /\ ∀ x, Cc o x = true -> BF o x = s -> r = x.Mode := by
    refine ⟨_, if_pos (by decide), fun x h he => ?_⟩
    have H := (hit x h he).c
    rw [e3] at H
    cases H
    have := OQ (N := N) (BZ.1 h).m
    unfold strings_Index at this
    rw [if_pos (by decide)] at this
    exact Option.some.inj this
   obtain ⟨r1, hr1, k1⟩ := n1
   obtain ⟨r2, hr2, k2⟩ := n2
   obtain ⟨r3, hr3, k3⟩ := n3
   rw [show idx l 1 = some w1 from Fg 1 e1, Option.bind_some, hr1, Option.bind_some, show idx l 2 = some w2 from Fg 2 e2, Option.bind_some, hr2, Option.bind_some]
   rw [show idx l 4 = some w4 from Fg 4 e4, Option.bind_some, EH (by simp; omega), Option.bind_some, show idx l 5 = some w5 from Fg 5 e5, Option.bind_some, EH (by simp; omega), Option.bind_some, pT (by simp; omega), Option.bind_some, Option.bind_some]
   have s1 : sub l 8 (k : Int) = some ((l.take k).drop 8) := Qd (i := 8) g2 (by omega)
   have s2 : sub l (W64 ((k : Int) + 1)) (l.length : Int) = some (l.drop (k + 1)) := by
    rw [NG k (by omega), Qd (by omega) (Nat.le_refl _), List.take_length]
   have j1 := Lv ((List.drop_sublist 8 (l.take k)).trans (List.take_sublist k l))
   have j2 := Lv (List.drop_sublist (k + 1) l)
   have jl1 := Ly ((l.take k).drop 8)
   have jl2 := Ly (l.drop (k + 1))
   rw [s1, Option.bind_some, QB (by omega), Option.bind_some, pX (by omega), Option.bind_some, Option.bind_some, s2, Option.bind_some, QB (by omega), Option.bind_some, pX (by omega), Option.bind_some, Option.bind_some]
   rw [show idx l 3 = some w3 from Fg 3 e3, Option.bind_some, show idx l 6 = some w6 from Fg 6 e6, Option.bind_some, hr3, Option.bind_some, Option.bind_some]
   have ky : ∀ x, Cc o x = true -> BF o x = s -> ({ Num := r1.1, Khz := r2.1, Mode := r3, Minute := (FZ (w4 ++ [32] ++ w5)).1, Call := w6, Sent := { Report := (BM o (jn ((l.take k).drop 8))).1.Report, Serial := (BM o (jn ((l.take k).drop 8))).1.Serial, Zone := (BM o (jn ((l.take k).drop 8))).1.Zone }, Got := { Report := (BM o (jn (l.drop (k + 1)))).1.Report, Serial := (BM o (jn (l.drop (k + 1)))).1.Serial, Zone := (BM o (jn (l.drop (k + 1)))).1.Zone } } : Line) = x := by
    intro x h he
    have H := hit x h he
    have hx := BZ.1 h
    have t1 := H.d w4 w5 e4 e5
    have t2 := H.e
    rw [e6] at t2
    cases t2
    rw [k1 x h he, k2 x h he, k3 x h he, t1, Ir (by have := hx.t; omega), H.s, H.g, <- GU, <- GU, E5 hx.s, E5 hx.g]
    have := hx.t
    show ({ Num := x.Num, Khz := x.Khz, Mode := x.Mode, Minute := ((x.Minute.toNat : Nat) : Int), Call := x.Call, Sent := x.Sent, Got := x.Got } : Line) = x
    rw [show ((x.Minute.toNat : Nat) : Int) = x.Minute by omega]
   have hf : OV ({ Num := r1.1, Khz := r2.1, Mode := r3, Minute := (FZ (w4 ++ [32] ++ w5)).1, Call := w6, Sent := { Report := (BM o (jn ((l.take k).drop 8))).1.Report, Serial := (BM o (jn ((l.take k).drop 8))).1.Serial, Zone := (BM o (jn ((l.take k).drop 8))).1.Zone }, Got := { Report := (BM o (jn (l.drop (k + 1)))).1.Report, Serial := (BM o (jn (l.drop (k + 1)))).1.Serial, Zone := (BM o (jn (l.drop (k + 1)))).1.Zone } } : Line) := by
    show w6.length < 4000000000
    omega
   simp only
   generalize ({ Num := r1.1, Khz := r2.1, Mode := r3, Minute := (FZ (w4 ++ [32] ++ w5)).1, Call := w6, Sent := { Report := (BM o (jn ((l.take k).drop 8))).1.Report, Serial := (BM o (jn ((l.take k).drop 8))).1.Serial, Zone := (BM o (jn ((l.take k).drop 8))).1.Zone }, Got := { Report := (BM o (jn (l.drop (k + 1)))).1.Report, Serial := (BM o (jn (l.drop (k + 1)))).1.Serial, Zone := (BM o (jn (l.drop (k + 1)))).1.Zone } } : Line) = y at ky hf ⊢
   rw [G2 o y hf hN, Option.bind_some]
   unfold prL
   cases hv : Cc o y with
   | false =>
    rw [if_neg (by simp)]
    rw [G1 (fun x h he => by
     have := ky x h he
     rw [this, h] at hv; cases hv)]
    rfl
   | true =>
    rw [if_pos rfl]
    simp only [bne_self_eq_false, Bool.false_or]
    by_cases he : BF o y = s
    ·subst he
     rw [M1 hv]
     simp
    ·rw [G1 (fun x h he' => by
      have := ky x h he'
      rw [this] at he
      exact he he')]
     rw [show (BF o y != s) = true by simpa using he]
     rfl
  ·have hb : (bif (decide ((l.length : Int) < 9)) then some true else (bif (decide ((k : Int) < 8)) then some true else ((idx l 7).bind fun x62 => some (x62 != ([62] : T2))))) = some true := by
    by_cases g1 : 9 <= l.length
    ·rw [decide_eq_false (show ¬ (l.length : Int) < 9 by omega), cond_false]
     by_cases g2 : 8 <= k
     ·rw [decide_eq_false (show ¬ (k : Int) < 8 by omega), cond_false]
      obtain ⟨w7, e7⟩ : ∃ w, l[7]? = some w := ⟨_, List.getElem?_eq_getElem (by omega)⟩
      rw [show idx l 7 = some w7 from Fg 7 e7, Option.bind_some]
      have : w7 ≠ [62] := fun e => hg ⟨g1, g2, by rw [e7, e]⟩
      rw [show (w7 != ([62] : T2)) = true by simpa using this]
     ·rw [decide_eq_true (show (k : Int) < 8 by omega), cond_true]
    ·rw [decide_eq_true (show (l.length : Int) < 9 by omega), cond_true]
   rw [hb, Option.bind_some, cond_true, G1 (fun x h he => hg (by
    have H := hhit h he hk h60 hp
    exact ⟨H.n.1, H.n.2, H.f⟩))]
   rfl
 ·rw [hi, Option.bind_some]
  have hb : (bif (decide ((l.length : Int) < 9)) then some true else (bif (decide ((-1 : Int) < 8)) then some true else ((idx l 7).bind fun x62 => some (x62 != ([62] : T2))))) = some true := by
   cases decide ((l.length : Int) < 9) <;> rfl
  rw [hb, Option.bind_some, cond_true, G1 (fun x h he => hno (hsix h he))]
  rfl
theorem Qq (o : Ac) (s : T2) : (∃ x, Cc o x = true /\ BF o x = s /\ paL o s = (x, 0)) \/ ((∀ x, Cc o x = true -> BF o x ≠ s) /\ paL o s = (QE, 20)) := by
 by_cases h : ∃ x, Cc o x = true /\ BF o x = s
 ·obtain ⟨x, h1, h2⟩ := h
  refine .inl ⟨x, h1, h2, ?_⟩
  rw [<- h2]; exact M1 h1
 ·have : ∀ x, Cc o x = true -> BF o x ≠ s := fun x h1 h2 => h ⟨x, h1, h2⟩
  exact .inr ⟨this, G1 this⟩
theorem N2 (o : Ac) (x : Line) (s : T2) (hN : 4294967300 < N) : Dh N o x s = some true := by
 unfold Dh
 rw [show G9 N = some true from rfl, Option.bind_some, show ({ Report := o.Report, Serial := o.Serial, Zone := o.Zone } : Ac) = o from rfl]
 by_cases h1 : x.Call.length > 40
 ·rw [decide_eq_true (show (x.Call.length : Int) > 40 by omega)]; rfl
 rw [decide_eq_false (show ¬ (x.Call.length : Int) > 40 by omega)]
 by_cases h2 : s.length > 300
 ·rw [decide_eq_true (show (s.length : Int) > 300 by omega)]; rfl
 rw [decide_eq_false (show ¬ (s.length : Int) > 300 by omega), Bool.or_false, cond_false]
 have hf : OV x := by unfold OV; omega
 rw [G2 o x hf hN, Option.bind_some]
 have hpl : (prL o x).1.length <= 300 := by
  unfold prL
  split
  ·rename_i hv
   exact N3 (BZ.1 hv)
  ·simp
 rw [J7 o _ (by omega) hN, Option.bind_some, Po o x hf hN]
 simp only [Option.bind_some]
 have hj : (bif (!(((prL o x).2 == 0) == Cc o x)) then some true else (bif ((prL o x).2 == 0) then (bif ((paL o (prL o x).1).2 != 0) then some true else (bif (!(((paL o (prL o x).1).1.Num == x.Num) && (((paL o (prL o x).1).1.Khz == x.Khz) && (((paL o (prL o x).1).1.Mode == x.Mode) && (((paL o (prL o x).1).1.Minute == x.Minute) && (((paL o (prL o x).1).1.Call == x.Call) && ((((paL o (prL o x).1).1.Sent.Report == x.Sent.Report) && (((paL o (prL o x).1).1.Sent.Serial == x.Sent.Serial) && (((paL o (prL o x).1).1.Sent.Zone == x.Sent.Zone) && true))) && ((((paL o (prL o x).1).1.Got.Report == x.Got.Report) && (((paL o (prL o x).1).1.Got.Serial == x.Got.Serial) && (((paL o (prL o x).1).1.Got.Zone == x.Got.Zone) && true))) && true)))))))) then some true else ((D0 N (prL o x).1).bind fun r100 => some (r100 != (prL o x).1)))) else some false)) = some false := by
  rw [Sy _ (by omega) hN]
  unfold prL
  cases hv : Cc o x with
  | false => rfl
  | true =>
   rw [if_pos rfl, M1 hv]
   simp only
   rw [RR, decide_eq_true rfl, PP (BZ.1 hv)]
   simp
 rw [hj, Option.bind_some, cond_false, J7 o s (by omega) hN, Option.bind_some]
 rcases Qq o s with ⟨y, y1, y2, e⟩ | ⟨_, e⟩
 ·rw [e]
  have hy : OV y := by have := (Gh (BZ.1 y1).c).2.2.2.2; unfold OV; omega
  simp only [bne_self_eq_false, cond_false]
  rw [G2 o y hy hN]
  unfold prL
  rw [if_pos y1, y2]
  simp
 ·rw [e]; rfl
end
theorem PO (x0 : Ac) (x1 : Line) (x2 : T2) {P Q R : Prop} (_ : P) (_ : Q) (_ : R) : Dh 9223372036854775808 x0 x1 x2 = some true := N2 x0 x1 x2 (by decide)
end
end Go.Proofs.YthljkpeimofbbaaGreatDoor
