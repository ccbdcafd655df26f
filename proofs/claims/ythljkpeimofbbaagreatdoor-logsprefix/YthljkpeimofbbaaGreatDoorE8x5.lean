/- Lemmas of the claim LogsPrefix, printed by a program of the claimant and by hand. No statement of the seat is proved here. -/
import Derived.Test.YthljkpeimofbbaaGreatDoorE8x4
set_option linter.unusedVariables false
set_option linter.unusedSimpArgs false
set_option linter.unusedSectionVars false
set_option maxHeartbeats 4000000
set_option maxRecDepth 100000
namespace Go.Proofs.YthljkpeimofbbaaGreatDoor
theorem DN {N : Nat} {x r : List Fix} (h : Be N x = some r) : r.length = x.length := by
  unfold Be at h
  obtain ⟨o, ho, h⟩ := bind_some h
  obtain ⟨s1, hI, hb, _⟩ := Ov (fun s => s.2.2.length = x.length) (fun s s' hI hs => by
    unfold A3 at hs
    rcases Na hs with ⟨_, hs⟩ | ⟨_, hs⟩
    · first
      | (cases hs; done)
      | (obtain ⟨j, hj, hs⟩ := bind_some hs
         cases hs
         obtain ⟨_, _, hj⟩ := bind_some hj
         obtain ⟨_, _, hj⟩ := bind_some hj
         obtain ⟨_, _, hj⟩ := bind_some hj
         obtain ⟨_, _, hj⟩ := bind_some hj
         cases hj
         simpa using hI)
    · cases hs) (by rfl) ho
  unfold A3 at hb
  rcases Na hb with ⟨_, hb⟩ | ⟨_, hb⟩
  · first
    | (cases hb; done)
    | (obtain ⟨j, _, hb⟩ := bind_some hb
       cases hb; cases h)
  · cases hb; cases h; exact hI
def KH (N : Nat) (x0 : Ac) (x1 : Log) (x2 : (List Fix)) : Option ((List Fix) × Int) :=
 ((Hd N ({ Report := x0.Report, Serial := x0.Serial, Zone := x0.Zone } : Ac) x1 x2).bind fun r27 => ((Be N r27.2.1).bind fun r41 => some (r41, r27.2.2.1)))
theorem Mb : Ag Tryz.prog 53 := fun _ _ => by kernel_rfl
theorem MK (N : Nat) (w0 : World) (F0 : Mem) (hF : US w0 F0) (hG : Br F0) (x0 : Ac) (x1 : Log) (a1_4 : UR) (n1_4 : Nat) (hb1_4 : LC x1.Jumps.length n1_4) (hs1_4 : SlA AQ F0 a1_4 x1.Jumps) (a1_5 : UR) (n1_5 : Nat) (hb1_5 : LC x1.Lines.length n1_5) (hs1_5 : SlA AK F0 a1_5 x1.Lines) (x2 : (List Fix)) (a2_0 : UR) (n2_0 : Nat) (hb2_0 : LC x2.length n2_0) (hs2_0 : SlA I4 F0 a2_0 x2) (r : ((List Fix) × Int)) (h : KH N x0 x1 x2 = some r) :
  Calls Tryz.prog 53 ([(.agg (Ak x0)), (.agg (AL x1 a1_4 n1_4 a1_5 n1_5)), (.slice a2_0 x2.length n2_0)] : List Value).toArray w0 (AB w0 F0 fun F' v => ∃ (aq0_0 : UR) (nq0_0 : Nat), v = (.tuple #[(.slice aq0_0 r.1.length nq0_0), (vi r.2)]) /\ LC r.1.length nq0_0 /\ SlA I4 F' aq0_0 r.1) := by
 have hs0 := Uy hF
 refine Go 25 Tryz.func53 <| Sq (Rg (rG 4) ?_)
 refine Bx' 23 (Ak x0) hs0 (fun b21 w22 hs23 => ?_)
 refine Bx' 27 (AL x1 a1_4 n1_4 a1_5 n1_5) hs23 (fun b24 w25 hs26 => ?_)
 refine Vs 2 <| Nss (Rg (rG 14) ?_)
 refine Ld hs26.at1 <| Ld hs26.at0 <| Vs 1 ?_
 obtain ⟨r27, hr28, h29⟩ := bind_some h
 refine RWP.callO (dst := (some 16)) (ty := 162) (g := none) (by kernel_rfl) rfl (f0 := (.func 120)) (aos := #[(.tmp 13), (.tmp 14), (.tmp 15)]) (ats := #[23, 27, 60]) (fid := 120) (first := #[]) (cap := #[]) (args := [(.agg (Ak x0)), (.agg (AL x1 a1_4 n1_4 a1_5 n1_5)), (.slice a2_0 x2.length n2_0)]) rfl Ju rfl hs26 (Ks N w25 F0 hs26.pers hG (({ Report := x0.Report, Serial := x0.Serial, Zone := x0.Zone } : Ac)) x1 a1_4 n1_4 hb1_4 hs1_4 a1_5 n1_5 hb1_5 hs1_5 x2 a2_0 n2_0 hb2_0 hs2_0 _ hr28) ?_
 rintro _ F1 w31 _ hs32 le33 ⟨ar27_0_4, nr27_0_4, ar27_0_5, nr27_0_5, er27_0_5, ar27_1_0, nr27_1_0, er27_1_0, rfl, rfl, hbr27_0_4, hsr27_0_4, hrr27_0_5, hrr27_1_0⟩
 have hs35 : HS w0 F0 w31 F1 [er27_0_5, er27_1_0, (sb b24 (AL x1 a1_4 n1_4 a1_5 n1_5) 27), (sb b21 (Ak x0) 23)] := hs32
 refine Vs 5 <| Al' 27 #[(sv (([] : UQ))), (vi 0), (vi 0), (vi 0), (.slice none ([] : List Int).length 0), (.slice none ([] : List Line).length 0)] hs35 (fun b36 w37 hs38 => ?_)
 refine St0 (AL r27.1 ar27_0_4 nr27_0_4 ar27_0_5 nr27_0_5) hs38 (fun w39 hs40 => ?_)
 refine Vs 3 <| Nss (Rg [0, 1] ?_)
 refine Vs 1 ?_
 obtain ⟨r41, hr42, h43⟩ := bind_some h29
 refine RWP.callS (dst := (some 22)) (ty := 0) (g := none) (by kernel_rfl) rfl (f0 := (.func 126)) (aos := #[(.tmp 21)]) (ats := #[60]) (fid := 126) (first := #[]) (cap := #[]) (args := [(.slice ar27_1_0 r27.2.1.length nr27_1_0)]) rfl DO rfl (D0 N (Lf := [(sb b36 (AL r27.1 ar27_0_4 nr27_0_4 ar27_0_5 nr27_0_5) 27), er27_0_5, (sb b24 (AL x1 a1_4 n1_4 a1_5 n1_5) 27), (sb b21 (Ak x0) 23)]) r27.2.1 ar27_1_0 nr27_1_0 er27_1_0 hrr27_1_0 hs40.pk4.pk4.pk3.pk3.pk4  _ hr42) ?_
 rintro _ w45 ⟨F2, e44, rfl, hs46, le47, hr48⟩
 refine ⟨_, rfl, ?_⟩
 have hs49 : HS w0 F0 w45 F2 [e44, (sb b36 (AL r27.1 ar27_0_4 nr27_0_4 ar27_0_5 nr27_0_5) 27), er27_0_5, (sb b24 (AL x1 a1_4 n1_4 a1_5 n1_5) 27), (sb b21 (Ak x0) 23)] := hs46
 refine Nss (Rg (rG 4) ?_)
 refine V 23 60 (mv 9 (.slice ar27_1_0 r41.length nr27_1_0) (Tl rfl (DN hr42))) <| Vs 3 <| Nt <| Rt ?_
 have hb53 := UK hr48
 obtain ⟨F3, hs50, le51, hs52⟩ := hs49.fr0 hr48
 obtain rfl := Aa h43
 exact Re [(.slice ar27_1_0 r41.length nr27_1_0), (vi r27.2.2.1)] hs50 ⟨ar27_1_0, nr27_1_0, rfl, hb53, hs52⟩
def Da (N : Nat)  : Option Ac :=
 some ({ Report := true, Serial := true, Zone := false } : Ac)
theorem B0 : Ag Tryz.prog 71 := fun _ _ => by kernel_rfl
theorem Cl (N : Nat) (w0 : World) (F0 : Mem) (hF : US w0 F0)  (r : Ac) (h : Da N  = some r) :
  Calls Tryz.prog 71 ([] : List Value).toArray w0 (AB w0 F0 fun F' v => v = (.agg (Ak r))) := by
 have hs0 := Uy hF
 refine Go 2 Tryz.func71 <| Sq (Rg [0] ?_)
 refine Al' 23 #[(.bool false), (.bool false), (.bool false)] hs0 (fun b21 w22 hs23 => ?_)
 refine Nss (Rg [0, 1] ?_)
 refine Vs 1 <| St0 #[(.bool true), (.bool true), (.bool false)] hs23 (fun w24 hs25 => ?_)
 refine Nt <| Rt ?_
 obtain rfl := Aa h
 exact ⟨rfl, (.agg #[(.bool true), (.bool true), (.bool false)]), AR (l := [.cell 0 23]) (by kernel_rfl) (vs := [(.agg #[(.bool true), (.bool true), (.bool false)])]) ⟨b21, 0, rfl, Am (t := 23) (g := true) (s := 3) (by kernel_rfl) hs25.at0 rfl (by decide), trivial⟩, (.agg #[(.bool true), (.bool true), (.bool false)]), F0, rfl, hs25.clear, rfl⟩
def DU (N : Nat)  : Option Log :=
 some ({ Call := ([68, 76, 49, 88, 89] : UQ), Category := 1, Power := 100, Claimed := 20, Jumps := ([] : List Int), Lines := [({ Num := 7, Khz := 14025, Mode := 1, Minute := 75, Call := ([75, 49, 65, 66, 67] : UQ), Sent := ({ Report := 599, Serial := 12, Zone := 0 } : Ad), Got := ({ Report := 599, Serial := 3, Zone := 0 } : Ad) } : Line)] } : Log)
theorem DE : Ag Tryz.prog 72 := fun _ _ => by kernel_rfl
theorem D2 (N : Nat) (w0 : World) (F0 : Mem) (hF : US w0 F0)  (r : Log) (h : DU N  = some r) :
  Calls Tryz.prog 72 ([] : List Value).toArray w0 (AB w0 F0 fun F' v => ∃ (aq0_4 : UR) (nq0_4 : Nat) (aq0_5 : UR) (nq0_5 : Nat), v = (.agg (AL r aq0_4 nq0_4 aq0_5 nq0_5)) /\ LC r.Jumps.length nq0_4 /\ SlA AQ F' aq0_4 r.Jumps /\ LC r.Lines.length nq0_5 /\ SlA AK F' aq0_5 r.Lines) := by
 have hs0 := Uy hF
 refine Go 8 Tryz.func72 <| Sq (Rg [0] ?_)
 refine Al' 27 #[(sv (([] : UQ))), (vi 0), (vi 0), (vi 0), (.slice none ([] : List Int).length 0), (.slice none ([] : List Line).length 0)] hs0 (fun b21 w22 hs23 => ?_)
 refine Nss (Rg (rG 5) ?_)
 refine Vs 3 <| Al' 34 #[(vi 0), (vi 0), (vi 0), (vi 0), (sv (([] : UQ))), (vi 0), (vi 0), (vi 0), (vi 0), (vi 0), (vi 0)] hs23 (fun b24 w25 hs26 => ?_)
 refine St0 #[(vi 7), (vi 14025), (vi 1), (vi 75), (sv (([75, 49, 65, 66, 67] : UQ))), (vi 599), (vi 12), (vi 0), (vi 599), (vi 3), (vi 0)] hs26 (fun w27 hs28 => ?_)
 refine Nss (Rg (rG 4) ?_)
 refine Ld hs28.at0 <| Bs 34 [(vi 7), (vi 14025), (vi 1), (vi 75), (sv (([75, 49, 65, 66, 67] : UQ))), (vi 599), (vi 12), (vi 0), (vi 599), (vi 3), (vi 0)] hs28 (fun b29 w30 hs31 => ?_)
 have hr33 : Ap AK 34 F0 (some ⟨b29, 0, none⟩) 1 [({ Num := 7, Khz := 14025, Mode := 1, Minute := 75, Call := ([75, 49, 65, 66, 67] : UQ), Sent := ({ Report := 599, Serial := 12, Zone := 0 } : Ad), Got := ({ Report := 599, Serial := 3, Zone := 0 } : Ad) } : Line)] (some b29, .cells ([(vi 7), (vi 14025), (vi 1), (vi 75), (sv (([75, 49, 65, 66, 67] : UQ))), (vi 599), (vi 12), (vi 0), (vi 599), (vi 3), (vi 0)] : List Value).toArray 34 (0, 0)) := UM ⟨rfl, rfl⟩ (by simp)
 refine Vs 1 <| St2 #[(sv (([68, 76, 49, 88, 89] : UQ))), (vi 1), (vi 100), (vi 20), (.slice none ([] : List Int).length 0), (.slice (some ⟨b29, 0, none⟩) [({ Num := 7, Khz := 14025, Mode := 1, Minute := 75, Call := ([75, 49, 65, 66, 67] : UQ), Sent := ({ Report := 599, Serial := 12, Zone := 0 } : Ad), Got := ({ Report := 599, Serial := 3, Zone := 0 } : Ad) } : Line)].length 1)] hs31 (fun w34 hs35 => ?_)
 refine Nt <| Rt ?_
 have hb39 := UK hr33
 obtain ⟨F1, hs36, le37, hs38⟩ := hs35.fr0 hr33
 obtain rfl := Aa h
 exact ⟨rfl, (.agg #[(sv (([68, 76, 49, 88, 89] : UQ))), (vi 1), (vi 100), (vi 20), (.slice none ([] : List Int).length 0), (.slice (some ⟨b29, 0, none⟩) [({ Num := 7, Khz := 14025, Mode := 1, Minute := 75, Call := ([75, 49, 65, 66, 67] : UQ), Sent := ({ Report := 599, Serial := 12, Zone := 0 } : Ad), Got := ({ Report := 599, Serial := 3, Zone := 0 } : Ad) } : Line)].length 1)]), AR (l := [.cell 0 27]) (by kernel_rfl) (vs := [(.agg #[(sv (([68, 76, 49, 88, 89] : UQ))), (vi 1), (vi 100), (vi 20), (.slice none ([] : List Int).length 0), (.slice (some ⟨b29, 0, none⟩) [({ Num := 7, Khz := 14025, Mode := 1, Minute := 75, Call := ([75, 49, 65, 66, 67] : UQ), Sent := ({ Report := 599, Serial := 12, Zone := 0 } : Ad), Got := ({ Report := 599, Serial := 3, Zone := 0 } : Ad) } : Line)].length 1)])]) ⟨b21, 0, rfl, Am (t := 27) (g := true) (s := 6) (by kernel_rfl) hs36.at1 rfl (by decide), trivial⟩, (.agg #[(sv (([68, 76, 49, 88, 89] : UQ))), (vi 1), (vi 100), (vi 20), (.slice none ([] : List Int).length 0), (.slice (some ⟨b29, 0, none⟩) [({ Num := 7, Khz := 14025, Mode := 1, Minute := 75, Call := ([75, 49, 65, 66, 67] : UQ), Sent := ({ Report := 599, Serial := 12, Zone := 0 } : Ad), Got := ({ Report := 599, Serial := 3, Zone := 0 } : Ad) } : Line)].length 1)]), F1, rfl, hs36.clear, ⟨none, 0, (some ⟨b29, 0, none⟩), 1, rfl, UA, (.inl rfl), hb39, hs38⟩⟩
def Jj (N : Nat)  : Option Bool :=
 ((Da N ).bind fun r21 => ((DU N ).bind fun r29 => ((LX N ({ Report := r21.Report, Serial := r21.Serial, Zone := r21.Zone } : Ac) r29).bind fun r37 => ((Da N ).bind fun r45 => ((CX N ({ Report := r45.Report, Serial := r45.Serial, Zone := r45.Zone } : Ac) ([67, 65, 76, 76, 32, 68, 76, 49, 88, 89, 10, 67, 65, 84, 69, 71, 79, 82, 89, 32, 49, 10, 80, 79, 87, 69, 82, 32, 49, 48, 48, 10, 67, 76, 65, 73, 77, 69, 68, 32, 50, 48, 10, 74, 85, 77, 80, 83, 10, 81, 83, 79, 32, 55, 32, 49, 52, 48, 50, 53, 32, 77, 32, 49, 32, 48, 49, 49, 53, 32, 75, 49, 65, 66, 67, 32, 62, 32, 53, 57, 57, 32, 48, 49, 50, 32, 60, 32, 53, 57, 57, 32, 48, 48, 51, 10, 69, 78, 68, 10] : UQ)).bind fun r53 => (((JK ([67, 65, 76, 76, 32, 68, 76, 49, 88, 89, 10, 67, 65, 84, 69, 71, 79, 82, 89, 32, 49, 10, 80, 79, 87, 69, 82, 32, 49, 48, 48, 10, 67, 76, 65, 73, 77, 69, 68, 32, 50, 48, 10, 74, 85, 77, 80, 83, 10, 81, 83, 79, 32, 55, 32, 49, 52, 48, 50, 53, 32, 77, 32, 49, 32, 48, 49, 49, 53, 32, 75, 49, 65, 66, 67, 32, 62, 32, 53, 57, 57, 32, 48, 49, 50, 32, 60, 32, 53, 57, 57, 32, 48, 48, 51, 10, 69, 78, 68, 10] : UQ) 0 96).bind fun r81 => ((Da N ).bind fun r84 => ((CX N ({ Report := r84.Report, Serial := r84.Serial, Zone := r84.Zone } : Ac) r81).bind fun r92 => some (r92.2.1, r92.2.2)))).bind fun j71 => ((Da N ).bind fun r139 => ((KF N ({ Report := r139.Report, Serial := r139.Serial, Zone := r139.Zone } : Ac) ([67, 65, 76, 76, 32, 68, 76, 49, 88, 89, 10, 67, 65, 84, 69, 71, 79, 82, 89, 32, 49, 10, 67, 76, 65, 73, 77, 69, 68, 32, 50, 48, 10, 74, 85, 77, 80, 83, 10, 81, 83, 79, 32, 55, 32, 49, 52, 48, 50, 53, 32, 77, 32, 49, 32, 48, 49, 49, 53, 32, 75, 49, 65, 66, 67, 32, 62, 32, 53, 57, 57, 32, 48, 49, 50, 32, 60, 32, 53, 57, 57, 32, 48, 48, 51, 10, 101, 110, 100, 10] : UQ)).bind fun r147 => ((Da N ).bind fun r155 => ((DU N ).bind fun r163 => ((KH N ({ Report := r155.Report, Serial := r155.Serial, Zone := r155.Zone } : Ac) r163 ([({ Kind := 1, Num := 7, Line := ({ Num := 0, Khz := 0, Mode := 0, Minute := 0, Call := ([] : UQ), Sent := ({ Report := 0, Serial := 0, Zone := 0 } : Ad), Got := ({ Report := 0, Serial := 0, Zone := 0 } : Ad) } : Line) } : Fix)])).bind fun r180 => (bif ((r37.2 != 0) || ((r53.2.1 != 0) || ((j71.1 != 20) || ((r147.2.2.2 != 0) || ((r180.2 != 0) || ((j71.2 != 7) || ((r180.1.length : Int) != 1))))))) then some false else ((bif (r37.1 == ([67, 65, 76, 76, 32, 68, 76, 49, 88, 89, 10, 67, 65, 84, 69, 71, 79, 82, 89, 32, 49, 10, 80, 79, 87, 69, 82, 32, 49, 48, 48, 10, 67, 76, 65, 73, 77, 69, 68, 32, 50, 48, 10, 74, 85, 77, 80, 83, 10, 81, 83, 79, 32, 55, 32, 49, 52, 48, 50, 53, 32, 77, 32, 49, 32, 48, 49, 49, 53, 32, 75, 49, 65, 66, 67, 32, 62, 32, 53, 57, 57, 32, 48, 49, 50, 32, 60, 32, 53, 57, 57, 32, 48, 48, 51, 10, 69, 78, 68, 10] : UQ)) then ((DU N ).bind fun r220 => ((LP N r53.1 r220).bind fun r228 => (bif r228 then (bif (r147.2.2.1 == 7) then (bif ((r147.2.1.length : Int) == 7) then ((idx r180.1 0).bind fun x245 => ((DU N ).bind fun r259 => ((idx r259.Lines 0).bind fun x267 => some ((x245.Line.Num == x267.Num) && ((x245.Line.Khz == x267.Khz) && ((x245.Line.Mode == x267.Mode) && ((x245.Line.Minute == x267.Minute) && ((x245.Line.Call == x267.Call) && (((x245.Line.Sent.Report == x267.Sent.Report) && ((x245.Line.Sent.Serial == x267.Sent.Serial) && ((x245.Line.Sent.Zone == x267.Sent.Zone) && true))) && (((x245.Line.Got.Report == x267.Got.Report) && ((x245.Line.Got.Serial == x267.Got.Serial) && ((x245.Line.Got.Zone == x267.Got.Zone) && true))) && true)))))))))) else some false) else some false) else some false))) else some false).bind fun j212 => some j212)))))))))))))
theorem K3 : Ag Tryz.prog 19 := fun _ _ => by kernel_rfl
theorem Mo (N : Nat) (w0 : World) (F0 : Mem) (hF : US w0 F0) (hG : Br F0)  (r : Bool) (h : Jj N  = some r) :
  Calls Tryz.prog 19 ([] : List Value).toArray w0 (AB w0 F0 fun F' v => v = (.bool r)) := by
 have hs0 := Uy hF
 refine Go 103 Tryz.func19 <| Sq (Rg [0] ?_)
 refine Vs 1 <| Nss (Rg (rG 8) ?_)
 obtain ⟨r21, hr22, h23⟩ := bind_some h
 refine Cl' B0 hs0 (Cl N w0 F0 hs0.pers  _ hr22) ?_
 rintro _ F1 w25 hs26 le27 rfl
 obtain ⟨r29, hr30, h31⟩ := bind_some h23
 refine Cl' DE hs26 (D2 N w25 F1 hs26.pers  _ hr30) ?_
 rintro _ F2 w33 hs34 le35 ⟨ar29_0_4, nr29_0_4, ar29_0_5, nr29_0_5, rfl, hbr29_0_4, hsr29_0_4, hbr29_0_5, hsr29_0_5⟩
 obtain ⟨r37, hr38, h39⟩ := bind_some h31
 refine Cl' MF hs34 (NT N w33 F2 hs34.pers (hG.mono (le27.t le35)) (({ Report := r21.Report, Serial := r21.Serial, Zone := r21.Zone } : Ac)) r29 ar29_0_4 nr29_0_4 hbr29_0_4 hsr29_0_4 ar29_0_5 nr29_0_5 hbr29_0_5 hsr29_0_5 _ hr38) ?_
 rintro _ F3 w41 hs42 le43 rfl
 refine Vs 5 <| Nss (Rg (rG 10) ?_)
 obtain ⟨r45, hr46, h47⟩ := bind_some h39
 refine Cl' B0 hs42 (Cl N w41 F3 hs42.pers  _ hr46) ?_
 rintro _ F4 w49 hs50 le51 rfl
 obtain ⟨r53, hr54, h55⟩ := bind_some h47
 refine Cl' CF hs50 (Df N w49 F4 hs50.pers (hG.mono (((le27.t le35).trans le43).trans le51)) (({ Report := r45.Report, Serial := r45.Serial, Zone := r45.Zone } : Ac)) (([67, 65, 76, 76, 32, 68, 76, 49, 88, 89, 10, 67, 65, 84, 69, 71, 79, 82, 89, 32, 49, 10, 80, 79, 87, 69, 82, 32, 49, 48, 48, 10, 67, 76, 65, 73, 77, 69, 68, 32, 50, 48, 10, 74, 85, 77, 80, 83, 10, 81, 83, 79, 32, 55, 32, 49, 52, 48, 50, 53, 32, 77, 32, 49, 32, 48, 49, 49, 53, 32, 75, 49, 65, 66, 67, 32, 62, 32, 53, 57, 57, 32, 48, 49, 50, 32, 60, 32, 53, 57, 57, 32, 48, 48, 51, 10, 69, 78, 68, 10] : UQ)) _ hr54) ?_
 rintro _ F5 w57 hs58 le59 ⟨ar53_0_4, nr53_0_4, ar53_0_5, nr53_0_5, rfl, hbr53_0_4, hsr53_0_4, hbr53_0_5, hsr53_0_5⟩
 refine Vs 4 <| Al' 27 #[(sv (([] : UQ))), (vi 0), (vi 0), (vi 0), (.slice none ([] : List Int).length 0), (.slice none ([] : List Line).length 0)] hs58 (fun b61 w62 hs63 => ?_)
 refine St0 (AL r53.1 ar53_0_4 nr53_0_4 ar53_0_5 nr53_0_5) hs63 (fun w64 hs65 => ?_)
 refine Vs 2 <| Nss ?_
 obtain ⟨j71, hj79, h80⟩ := bind_some h55
 refine RD 11 11 [(sb b61 (AL r53.1 ar53_0_4 nr53_0_4 ar53_0_5 nr53_0_5) 27)] [] hs65 (fun f w => ∃ (F6 : Mem), HS w0 F0 w F6 [(sb b61 (AL r53.1 ar53_0_4 nr53_0_4 ar53_0_5 nr53_0_5) 27)] /\ Uw F5 F6 /\ FI f [] [(1, (sv r37.1)), (2, (vi r37.2)), (3, (pt b61 0)), (4, (vi r53.2.1)), (7, (vi j71.1)), (8, (vi j71.2))]) (fun wd66 hw67 => ?_) ?_
 ·obtain ⟨r81, hr82, h83⟩ := bind_some hj79
  refine Dt 1 29 9 (sv r81) (fun _ hq => FH (t := 9) (x := (.const (sv ([67, 65, 76, 76, 32, 68, 76, 49, 88, 89, 10, 67, 65, 84, 69, 71, 79, 82, 89, 32, 49, 10, 80, 79, 87, 69, 82, 32, 49, 48, 48, 10, 67, 76, 65, 73, 77, 69, 68, 32, 50, 48, 10, 74, 85, 77, 80, 83, 10, 81, 83, 79, 32, 55, 32, 49, 52, 48, 50, 53, 32, 77, 32, 49, 32, 48, 49, 49, 53, 32, 75, 49, 65, 66, 67, 32, 62, 32, 53, 57, 57, 32, 48, 49, 50, 32, 60, 32, 53, 57, 57, 32, 48, 48, 51, 10, 69, 78, 68, 10] : UQ)))) (lo := none) (hi := (some (.const (vi 96)))) (a := ([67, 65, 76, 76, 32, 68, 76, 49, 88, 89, 10, 67, 65, 84, 69, 71, 79, 82, 89, 32, 49, 10, 80, 79, 87, 69, 82, 32, 49, 48, 48, 10, 67, 76, 65, 73, 77, 69, 68, 32, 50, 48, 10, 74, 85, 77, 80, 83, 10, 81, 83, 79, 32, 55, 32, 49, 52, 48, 50, 53, 32, 77, 32, 49, 32, 48, 49, 49, 53, 32, 75, 49, 65, 66, 67, 32, 62, 32, 53, 57, 57, 32, 48, 49, 50, 32, 60, 32, 53, 57, 57, 32, 48, 48, 51, 10, 69, 78, 68, 10] : UQ)) (il := 0) (ih := 96) (v := r81) rfl (by kernel_rfl) rfl rfl hr82) <| UF (i := 0) (j := 7) (by kernel_rfl) ?_ ?_
  ·obtain ⟨r84, hr85, h86⟩ := bind_some h83
   refine DCl B0 hw67 (Cl N wd66 F5 hw67.pers  _ hr85) ?_
   rintro _ F7 w88 hs89 le90 rfl
   refine UF (i := 2) (j := 7) (by kernel_rfl) ?_ ?_
   ·obtain ⟨r92, hr93, h94⟩ := bind_some h86
    refine DCl CF hs89 (Df N w88 F7 hs89.pers (hG.mono (((((le27.t le35).trans le43).trans le51).trans le59).trans le90)) (({ Report := r84.Report, Serial := r84.Serial, Zone := r84.Zone } : Ac)) r81 _ hr93) ?_
    rintro _ F8 w96 hs97 le98 ⟨ar92_0_4, nr92_0_4, ar92_0_5, nr92_0_5, rfl, hbr92_0_4, hsr92_0_4, hbr92_0_5, hsr92_0_5⟩
    refine Dv [3, 4, 5, 6] <| D1 7 <| DAl 27 #[(sv (([] : UQ))), (vi 0), (vi 0), (vi 0), (.slice none ([] : List Int).length 0), (.slice none ([] : List Line).length 0)] hs97 (le90.t le98) (fun b100 w101 hs102 => ?_)
    refine D1 8 <| FG (AL r92.1 ar92_0_4 nr92_0_4 ar92_0_5 nr92_0_5) hs102 (le90.t le98) (fun w103 hs104 => ?_)
    refine Dv [9, 10] ?_
    obtain rfl := Aa h94
    exact UJ (by kernel_rfl) ⟨F8, hs104.dr0, (le90.t le98), fI⟩
   ·refine DAl 27 #[(sv (([] : UQ))), (vi 0), (vi 0), (vi 0), (.slice none ([] : List Int).length 0), (.slice none ([] : List Line).length 0)] hs89 le90 (fun b105 w106 hs107 => ?_)
    refine D1 2 ?_
    obtain ⟨r108, hr109, h110⟩ := bind_some h86
    refine DCl CF hs107 (Df N w106 F7 hs107.pers (hG.mono (((((le27.t le35).trans le43).trans le51).trans le59).trans le90)) (({ Report := r84.Report, Serial := r84.Serial, Zone := r84.Zone } : Ac)) r81 _ hr109) ?_
    rintro _ F9 w112 hs113 le114 ⟨ar108_0_4, nr108_0_4, ar108_0_5, nr108_0_5, rfl, hbr108_0_4, hsr108_0_4, hbr108_0_5, hsr108_0_5⟩
    refine Dv [3, 4, 5, 6] <| D1 8 <| FG (AL r108.1 ar108_0_4 nr108_0_4 ar108_0_5 nr108_0_5) hs113 (le90.t le114) (fun w116 hs117 => ?_)
    refine Dv [9, 10] ?_
    obtain rfl := Aa h110
    exact UJ (by kernel_rfl) ⟨F9, hs117.dr0, (le90.t le114), fI⟩
  ·refine DAl 27 #[(sv (([] : UQ))), (vi 0), (vi 0), (vi 0), (.slice none ([] : List Int).length 0), (.slice none ([] : List Line).length 0)] hw67 (Ux _) (fun b118 w119 hs120 => ?_)
   refine D1 0 ?_
   obtain ⟨r121, hr122, h123⟩ := bind_some h83
   refine DCl B0 hs120 (Cl N w119 F5 hs120.pers  _ hr122) ?_
   rintro _ F10 w125 hs126 le127 rfl
   refine D1 2 ?_
   obtain ⟨r129, hr130, h131⟩ := bind_some h123
   refine DCl CF hs126 (Df N w125 F10 hs126.pers (hG.mono (((((le27.t le35).trans le43).trans le51).trans le59).trans le127)) (({ Report := r121.Report, Serial := r121.Serial, Zone := r121.Zone } : Ac)) r81 _ hr130) ?_
   rintro _ F11 w133 hs134 le135 ⟨ar129_0_4, nr129_0_4, ar129_0_5, nr129_0_5, rfl, hbr129_0_4, hsr129_0_4, hbr129_0_5, hsr129_0_5⟩
   refine Dv [3, 4, 5, 6] <| D1 8 <| FG (AL r129.1 ar129_0_4 nr129_0_4 ar129_0_5 nr129_0_5) hs134 (le127.t le135) (fun w137 hs138 => ?_)
   refine Dv [9, 10] ?_
   obtain rfl := Aa h131
   exact UJ (by kernel_rfl) ⟨F11, hs138.dr0, (le127.t le135), fI⟩
 ·rintro f w68 ⟨F6, hs69, le70, ⟨_, rfl⟩⟩
  refine Ab <| Sq (Rg (rG 11) ?_)
  obtain ⟨r139, hr140, h141⟩ := bind_some h80
  refine Cl' B0 hs69 (Cl N w68 F6 hs69.pers  _ hr140) ?_
  rintro _ F12 w143 hs144 le145 rfl
  obtain ⟨r147, hr148, h149⟩ := bind_some h141
  refine Cl' L9 hs144 (MI N w143 F12 hs144.pers (hG.mono ((((((le27.t le35).trans le43).trans le51).trans le59).trans le70).trans le145)) (({ Report := r139.Report, Serial := r139.Serial, Zone := r139.Zone } : Ac)) (([67, 65, 76, 76, 32, 68, 76, 49, 88, 89, 10, 67, 65, 84, 69, 71, 79, 82, 89, 32, 49, 10, 67, 76, 65, 73, 77, 69, 68, 32, 50, 48, 10, 74, 85, 77, 80, 83, 10, 81, 83, 79, 32, 55, 32, 49, 52, 48, 50, 53, 32, 77, 32, 49, 32, 48, 49, 49, 53, 32, 75, 49, 65, 66, 67, 32, 62, 32, 53, 57, 57, 32, 48, 49, 50, 32, 60, 32, 53, 57, 57, 32, 48, 48, 51, 10, 101, 110, 100, 10] : UQ)) _ hr148) ?_
  rintro _ F13 w151 hs152 le153 ⟨ar147_1_0, nr147_1_0, rfl, hbr147_1_0, hsr147_1_0⟩
  refine Vs 9 <| Nss (Rg (rG 10) ?_)
  obtain ⟨r155, hr156, h157⟩ := bind_some h149
  refine Cl' B0 hs152 (Cl N w151 F13 hs152.pers  _ hr156) ?_
  rintro _ F14 w159 hs160 le161 rfl
  obtain ⟨r163, hr164, h165⟩ := bind_some h157
  refine Cl' DE hs160 (D2 N w159 F14 hs160.pers  _ hr164) ?_
  rintro _ F15 w167 hs168 le169 ⟨ar163_0_4, nr163_0_4, ar163_0_5, nr163_0_5, rfl, hbr163_0_4, hsr163_0_4, hbr163_0_5, hsr163_0_5⟩
  refine Vs 1 <| Bs 64 [(vi 1), (vi 7), (vi 0), (vi 0), (vi 0), (vi 0), (sv (([] : UQ))), (vi 0), (vi 0), (vi 0), (vi 0), (vi 0), (vi 0)] hs168 (fun b171 w172 hs173 => ?_)
  have hr175 : Ap I4 64 F15 (some ⟨b171, 0, none⟩) 1 [({ Kind := 1, Num := 7, Line := ({ Num := 0, Khz := 0, Mode := 0, Minute := 0, Call := ([] : UQ), Sent := ({ Report := 0, Serial := 0, Zone := 0 } : Ad), Got := ({ Report := 0, Serial := 0, Zone := 0 } : Ad) } : Line) } : Fix)] (some b171, .cells ([(vi 1), (vi 7), (vi 0), (vi 0), (vi 0), (vi 0), (sv (([] : UQ))), (vi 0), (vi 0), (vi 0), (vi 0), (vi 0), (vi 0)] : List Value).toArray 64 (0, 0)) := UM ⟨rfl, rfl⟩ (by simp)
  have hb179 := UK hr175
  obtain ⟨F16, hs176, le177, hs178⟩ := hs173.fr0 hr175
  obtain ⟨r180, hr181, h182⟩ := bind_some h165
  refine Cl' Mb hs176 (MK N w172 F16 hs176.pers (hG.mono ((((((((((le27.t le35).trans le43).trans le51).trans le59).trans le70).trans le145).trans le153).trans le161).trans le169).trans le177)) (({ Report := r155.Report, Serial := r155.Serial, Zone := r155.Zone } : Ac)) r163 ar163_0_4 nr163_0_4 hbr163_0_4 (Uz hsr163_0_4 le177) ar163_0_5 nr163_0_5 hbr163_0_5 (Uz hsr163_0_5 le177) ([({ Kind := 1, Num := 7, Line := ({ Num := 0, Khz := 0, Mode := 0, Minute := 0, Call := ([] : UQ), Sent := ({ Report := 0, Serial := 0, Zone := 0 } : Ad), Got := ({ Report := 0, Serial := 0, Zone := 0 } : Ad) } : Line) } : Fix)]) (some ⟨b171, 0, none⟩) 1 hb179 hs178 _ hr181) ?_
  rintro _ F17 w184 hs185 le186 ⟨ar180_0_0, nr180_0_0, rfl, hbr180_0_0, hsr180_0_0⟩
  refine Vs 5 <| Nss <| Sq (Rg (rG 27) ?_)
  refine UC (fun f w => ∃ (F18 : Mem), HS w0 F0 w F18 [(sb b61 (AL r53.1 ar53_0_4 nr53_0_4 ar53_0_5 nr53_0_5) 27)] /\ Uw F17 F18 /\ FI f [] [(1, (sv r37.1)), (3, (pt b61 0)), (10, (.slice ar147_1_0 r147.2.1.length nr147_1_0)), (11, (vi r147.2.2.1)), (13, (.slice ar180_0_0 r180.1.length nr180_0_0)), (75, (.bool ((r37.2 != 0) || ((r53.2.1 != 0) || ((j71.1 != 20) || ((r147.2.2.2 != 0) || ((r180.2 != 0) || ((j71.2 != 7) || ((r180.1.length : Int) != 1)))))))))]) ?_ ?_
  ·refine Vs 3 ?_
   refine UB (r37.2 != 0) (fun hb198 => ?_) (fun hb198 => ?_)
   ·refine Ss hb198 2 ?_
    refine Pk1 hb198 <| Vs 1 <| Ss (rfl : true = true) 2 <| Pk1 (rfl : true = true) <| Vs 1 <| Ss (rfl : true = true) 2 <| Pk1 (rfl : true = true) <| Vs 1 <| Ss (rfl : true = true) 2 <| Pk1 (rfl : true = true) <| Vs 1 <| Ss (rfl : true = true) 2 <| Pk1 (rfl : true = true) <| Vs 1 <| Ss (rfl : true = true) 3 <| Pk1 (rfl : true = true) ?_
    exact Us ⟨rfl, F17, hs185, (Ux _), (fJ ⟨rfl, rfl, rfl, rfl, rfl, (congrArg Value.bool (FN hb198 rfl)), trivial⟩)⟩
   ·refine Vgs hb198 2 ?_
    refine Pk0 hb198 <| Vs 1 <| UB (r53.2.1 != 0) (fun hb199 => ?_) (fun hb199 => ?_)
    ·refine Ss hb199 2 ?_
     refine Pk1 hb199 <| Vs 1 <| Ss (rfl : true = true) 2 <| Pk1 (rfl : true = true) <| Vs 1 <| Ss (rfl : true = true) 2 <| Pk1 (rfl : true = true) <| Vs 1 <| Ss (rfl : true = true) 2 <| Pk1 (rfl : true = true) <| Vs 1 <| Ss (rfl : true = true) 3 <| Pk1 (rfl : true = true) ?_
     exact Us ⟨rfl, F17, hs185, (Ux _), (fJ ⟨rfl, rfl, rfl, rfl, rfl, (congrArg Value.bool (Ct hb198 (FN hb199 rfl))), trivial⟩)⟩
    ·refine Vgs hb199 2 ?_
     refine Pk0 hb199 <| Vs 1 <| UB (j71.1 != 20) (fun hb200 => ?_) (fun hb200 => ?_)
     ·refine Ss hb200 2 ?_
      refine Pk1 hb200 <| Vs 1 <| Ss (rfl : true = true) 2 <| Pk1 (rfl : true = true) <| Vs 1 <| Ss (rfl : true = true) 2 <| Pk1 (rfl : true = true) <| Vs 1 <| Ss (rfl : true = true) 3 <| Pk1 (rfl : true = true) ?_
      exact Us ⟨rfl, F17, hs185, (Ux _), (fJ ⟨rfl, rfl, rfl, rfl, rfl, (congrArg Value.bool (Ct hb198 (Ct hb199 (FN hb200 rfl)))), trivial⟩)⟩
     ·refine Vgs hb200 2 ?_
      refine Pk0 hb200 <| Vs 1 <| UB (r147.2.2.2 != 0) (fun hb201 => ?_) (fun hb201 => ?_)
      ·refine Ss hb201 2 ?_
       refine Pk1 hb201 <| Vs 1 <| Ss (rfl : true = true) 2 <| Pk1 (rfl : true = true) <| Vs 1 <| Ss (rfl : true = true) 3 <| Pk1 (rfl : true = true) ?_
       exact Us ⟨rfl, F17, hs185, (Ux _), (fJ ⟨rfl, rfl, rfl, rfl, rfl, (congrArg Value.bool (Ct hb198 (Ct hb199 (Ct hb200 (FN hb201 rfl))))), trivial⟩)⟩
      ·refine Vgs hb201 2 ?_
       refine Pk0 hb201 <| Vs 1 <| UB (r180.2 != 0) (fun hb202 => ?_) (fun hb202 => ?_)
       ·refine Ss hb202 2 ?_
        refine Pk1 hb202 <| Vs 1 <| Ss (rfl : true = true) 3 <| Pk1 (rfl : true = true) ?_
        exact Us ⟨rfl, F17, hs185, (Ux _), (fJ ⟨rfl, rfl, rfl, rfl, rfl, (congrArg Value.bool (Ct hb198 (Ct hb199 (Ct hb200 (Ct hb201 (FN hb202 rfl)))))), trivial⟩)⟩
       ·refine Vgs hb202 2 ?_
        refine Pk0 hb202 <| Vs 1 <| UB (j71.2 != 7) (fun hb203 => ?_) (fun hb203 => ?_)
        ·refine Ss hb203 3 ?_
         refine Pk1 hb203 ?_
         exact Us ⟨rfl, F17, hs185, (Ux _), (fJ ⟨rfl, rfl, rfl, rfl, rfl, (congrArg Value.bool (Ct hb198 (Ct hb199 (Ct hb200 (Ct hb201 (Ct hb202 (FN hb203 rfl))))))), trivial⟩)⟩
        ·refine Vgs hb203 3 ?_
         refine Pk0 hb203 ?_
         exact Us ⟨rfl, F17, hs185, (Ux _), (fJ ⟨rfl, rfl, rfl, rfl, rfl, (congrArg Value.bool (Ct hb198 (Ct hb199 (Ct hb200 (Ct hb201 (Ct hb202 (Ct hb203 rfl))))))), trivial⟩)⟩
  ·rintro f w188 ⟨F18, hs189, le190, ⟨_, rfl⟩⟩
   refine Ab <| Cd h182 (fun hb204 h205 => ?_) (fun hb204 h206 => ?_)
   ·refine Sq (Rg [0] ?_)
    refine Vs 1 <| Nt <| Rt <| Aj ?_
    obtain rfl := Aa h205
    exact Re [(.bool false)] hs189 rfl
   ·refine Sc ?_
    refine Ab <| Sq ?_
    obtain ⟨j212, hj215, h216⟩ := bind_some h206
    refine RD 28 28 [(sb b61 (AL r53.1 ar53_0_4 nr53_0_4 ar53_0_5 nr53_0_5) 27)] [] hs189 (fun f w => ∃ (F19 : Mem), HS w0 F0 w F19 [] /\ Uw F18 F19 /\ FI f [] [(0, (.bool j212))]) (fun wd207 hw208 => ?_) ?_
    ·refine Dvl [0, 1, 2] (tf 3 25) ?_
     refine Sd hj215 (fun hb217 h218 => ?_) (fun hb217 h219 => ?_)
     ·refine Dgl 3 79 27 _ (tf 4 24) 2 true 78 hb217 (fun _ hq => ld 27 3 b61 0 true 6 (.agg (AL r53.1 ar53_0_4 nr53_0_4 ar53_0_5 nr53_0_5)) (hq.1.2 0 _ _ rfl)) ?_
      refine D1 4 ?_
      obtain ⟨r220, hr221, h222⟩ := bind_some h218
      refine UI (l' := [true, true, true, true, true, false, false, false, false, false, false, false, false, false, false, false, false, false, false, false, false, false, false, false, false, false, false, false]) (zd := true) (by kernel_rfl) (by kernel_rfl) (by kernel_rfl) (dst := (some 80)) (ty := 27) (g := (some (2, true))) (by kernel_rfl) (Ho (d := 78) (by kernel_rfl) rfl hb217) (f0 := (.func 72)) (aos := #[]) (ats := #[]) (fid := 72) (first := #[]) (cap := #[]) (args := []) rfl DE rfl hw208 (D2 N wd207 F18 hw208.pers  _ hr221) ?_
      rintro _ F20 w224 hs225 le226 ⟨ar220_0_4, nr220_0_4, ar220_0_5, nr220_0_5, rfl, hbr220_0_4, hsr220_0_4, hbr220_0_5, hsr220_0_5⟩
      refine D1 5 ?_
      obtain ⟨r228, hr229, h230⟩ := bind_some h222
      refine UI (l' := [true, true, true, true, true, true, false, false, false, false, false, false, false, false, false, false, false, false, false, false, false, false, false, false, false, false, false, false]) (zd := true) (by kernel_rfl) (by kernel_rfl) (by kernel_rfl) (dst := (some 81)) (ty := 4) (g := (some (2, true))) (by kernel_rfl) (Ho (d := 78) (by kernel_rfl) rfl hb217) (f0 := (.func 35)) (aos := #[(.tmp 79), (.tmp 80)]) (ats := #[27, 27]) (fid := 35) (first := #[]) (cap := #[]) (args := [(.agg (AL r53.1 ar53_0_4 nr53_0_4 ar53_0_5 nr53_0_5)), (.agg (AL r220 ar220_0_4 nr220_0_4 ar220_0_5 nr220_0_5))]) rfl MD rfl hs225 (NR N w224 F20 hs225.pers r53.1 ar53_0_4 nr53_0_4 hbr53_0_4 (Uz hsr53_0_4 ((((((((le70.t le145).trans le153).trans le161).trans le169).trans le177).trans le186).trans le190).trans le226)) ar53_0_5 nr53_0_5 hbr53_0_5 (Uz hsr53_0_5 ((((((((le70.t le145).trans le153).trans le161).trans le169).trans le177).trans le186).trans le190).trans le226)) r220 ar220_0_4 nr220_0_4 hbr220_0_4 hsr220_0_4 ar220_0_5 nr220_0_5 hbr220_0_5 hsr220_0_5 _ hr229) ?_
      rintro _ F21 w232 hs233 le234 rfl
      refine Dtl 6 82 4 _ (tf 7 21) (fun _ hq => p1 78 (.tmp 81) (.const (.bool false)) (.bool r228) hb217) <| Dvl [7] (tf 8 20) <| Sd h230 (fun hb236 h237 => ?_) (fun hb236 h238 => ?_)
      ·refine Dgl 8 84 3 _ (tf 9 19) 7 true 83 hb236 (fun _ hq => mv 11 (vi r147.2.2.1)) ?_
       refine Dgl 9 85 4 (.bool (r147.2.2.1 == 7)) (tf 10 18) 7 true 83 hb236 (fun _ hq => I8 (t := 3) (t' := 3) (x := (.tmp 84)) (y := (.const (vi 7))) (k := .i64) (a := r147.2.2.1) (b := 7) rfl rfl) <| Dtl 10 86 4 _ (tf 11 17) (fun _ hq => p1 83 (.tmp 85) (.const (.bool false)) (.bool (r147.2.2.1 == 7)) hb236) <| Dvl [11] (tf 12 16) <| Sd h237 (fun hb239 h240 => ?_) (fun hb239 h241 => ?_)
       ·refine Dgl 12 88 48 _ (tf 13 15) 11 true 87 hb239 (fun _ hq => mv 10 (.slice ar147_1_0 r147.2.1.length nr147_1_0)) ?_
        refine Dgl 13 89 3 (vi (r147.2.1.length : Int)) (tf 14 14) 11 true 87 hb239 (fun _ hq => ln 88 48 ar147_1_0 r147.2.1.length nr147_1_0 150 3 32) <| Dgl 14 90 4 (.bool ((r147.2.1.length : Int) == 7)) (tf 15 13) 11 true 87 hb239 (fun _ hq => I8 (t := 3) (t' := 3) (x := (.tmp 89)) (y := (.const (vi 7))) (k := .i64) (a := (r147.2.1.length : Int)) (b := 7) rfl rfl) <| Dtl 15 91 4 _ (tf 16 12) (fun _ hq => p1 87 (.tmp 90) (.const (.bool false)) (.bool ((r147.2.1.length : Int) == 7)) hb239) <| Dvl [16] (tf 17 11) <| Sd h240 (fun hb242 h243 => ?_) (fun hb242 h244 => ?_)
        ·refine Dgl 17 93 60 _ (tf 18 10) 16 true 92 hb242 (fun _ hq => mv 13 (.slice ar180_0_0 r180.1.length nr180_0_0)) ?_
         obtain ⟨x245, hx246, h248⟩ := bind_some h243
         obtain ⟨hi247, hx246'⟩ := As hx246
         obtain ⟨b249, o250, C251, E252, fz253, rfl, hF255, hE256⟩ := UE (Uz hsr180_0_0 le190) hx246'
         have hc258 := hE256 _ _ hx246'
         refine Dgl 18 94 0 (.pointer (some ⟨b249, (o250 + (0 : Int).toNat * 13), none⟩)) (tf 19 9) 16 true 92 hb242 (fun _ hq => Ce (t := 60) (x := (.tmp 93)) (y := (.const (vi 0))) (b := b249) (o := o250) (E := 64) (s := 13) (by_ := 112) rfl rfl (by kernel_rfl) hi247) <| Dgl 19 95 0 (.pointer (some ⟨b249, ((o250 + (0 : Int).toNat * 13) + 2), none⟩)) (tf 20 8) 16 true 92 hb242 (fun _ hq => fa 64 94 2 2 11 b249 (o250 + (0 : Int).toNat * 13) ((o250 + (0 : Int).toNat * 13) + 2)) <| Dgl 20 96 34 _ (tf 21 7) 16 true 92 hb242 (fun _ hq => lx 34 95 2 13 true 11 (.agg (B6 x245.Line)) (hq.1.1 _ _ hF255) hc258) <| D1 21 ?_
         obtain ⟨r259, hr260, h261⟩ := bind_some h248
         refine UI (l' := [true, true, true, true, true, true, true, true, true, true, true, true, true, true, true, true, true, true, true, true, true, true, false, false, false, false, false, false]) (zd := true) (by kernel_rfl) (by kernel_rfl) (by kernel_rfl) (dst := (some 97)) (ty := 27) (g := (some (16, true))) (by kernel_rfl) (Ho (d := 92) (by kernel_rfl) rfl hb242) (f0 := (.func 72)) (aos := #[]) (ats := #[]) (fid := 72) (first := #[]) (cap := #[]) (args := []) rfl DE rfl hs233 (D2 N w232 F21 hs233.pers  _ hr260) ?_
         rintro _ F22 w263 hs264 le265 ⟨ar259_0_4, nr259_0_4, ar259_0_5, nr259_0_5, rfl, hbr259_0_4, hsr259_0_4, hbr259_0_5, hsr259_0_5⟩
         refine Dgl 22 98 25 _ (tf 23 5) 16 true 92 hb242 (fun _ hq => LK (s := 27) (x := (.tmp 97)) (i := 5) (o := 5) (k := 1) (t := 25) (gg := false) (cs := (AL r259 ar259_0_4 nr259_0_4 ar259_0_5 nr259_0_5)) (v := (.slice ar259_0_5 r259.Lines.length nr259_0_5)) rfl (by kernel_rfl) (by kernel_rfl) rfl rfl rfl) ?_
         obtain ⟨x267, hx268, h270⟩ := bind_some h261
         obtain ⟨hi269, hx268'⟩ := As hx268
         obtain ⟨b271, o272, C273, E274, fz275, rfl, hF277, hE278⟩ := UE hsr259_0_5 hx268'
         have hc280 := hE278 _ _ hx268'
         refine Dgl 23 99 0 (.pointer (some ⟨b271, (o272 + (0 : Int).toNat * 11), none⟩)) (tf 24 4) 16 true 92 hb242 (fun _ hq => Ce (t := 25) (x := (.tmp 98)) (y := (.const (vi 0))) (b := b271) (o := o272) (E := 34) (s := 11) (by_ := 96) rfl rfl (by kernel_rfl) hi269) <| D1 24 <| UG (l' := [true, true, true, true, true, true, true, true, true, true, true, true, true, true, true, true, true, true, true, true, true, true, true, true, true, false, false, false]) (zd := true) (by kernel_rfl) (by kernel_rfl) (dst := (some 100)) (ty := 34) (g := (some (16, true))) (by kernel_rfl) (Ho (d := 92) (by kernel_rfl) rfl hb242) (JN (t := 34) (x := (.tmp 99)) (b := b271) (o := (o272 + (0 : Int).toNat * 11)) (j := 0) (C := C273) (kk := 11) (cs := [(vi x267.Num), (vi x267.Khz), (vi x267.Mode), (vi x267.Minute), (sv x267.Call), (vi x267.Sent.Report), (vi x267.Sent.Serial), (vi x267.Sent.Zone), (vi x267.Got.Report), (vi x267.Got.Serial), (vi x267.Got.Zone)]) (gg := true) (s := 11) (v := (.agg (B6 x267))) rfl (by kernel_rfl) (hs264.pers _ _ hF277) hc280 (by decide) (by exact ⟨rfl, trivial⟩) rfl rfl) (Ba hs264 ((le226.t le234).trans le265) (by simp) (fun e => by cases e)) <| Dgl 25 101 4 (.bool ((x245.Line.Num == x267.Num) && ((x245.Line.Khz == x267.Khz) && ((x245.Line.Mode == x267.Mode) && ((x245.Line.Minute == x267.Minute) && ((x245.Line.Call == x267.Call) && (((x245.Line.Sent.Report == x267.Sent.Report) && ((x245.Line.Sent.Serial == x267.Sent.Serial) && ((x245.Line.Sent.Zone == x267.Sent.Zone) && true))) && (((x245.Line.Got.Report == x267.Got.Report) && ((x245.Line.Got.Serial == x267.Got.Serial) && ((x245.Line.Got.Zone == x267.Got.Zone) && true))) && true)))))))) (tf 26 2) 16 true 92 hb242 (fun _ hq => PF (t := 34) (t' := 34) (x := (.tmp 96)) (y := (.tmp 100)) (xs := (B6 x245.Line)) (ys := (B6 x267)) (b := ((x245.Line.Num == x267.Num) && ((x245.Line.Khz == x267.Khz) && ((x245.Line.Mode == x267.Mode) && ((x245.Line.Minute == x267.Minute) && ((x245.Line.Call == x267.Call) && (((x245.Line.Sent.Report == x267.Sent.Report) && ((x245.Line.Sent.Serial == x267.Sent.Serial) && ((x245.Line.Sent.Zone == x267.Sent.Zone) && true))) && (((x245.Line.Got.Report == x267.Got.Report) && ((x245.Line.Got.Serial == x267.Got.Serial) && ((x245.Line.Got.Zone == x267.Got.Zone) && true))) && true)))))))) rfl rfl (by kernel_rfl) (by kernel_rfl)) <| Dtl 26 102 4 _ (tf 27 1) (fun _ hq => p1 92 (.tmp 101) (.const (.bool false)) (.bool ((x245.Line.Num == x267.Num) && ((x245.Line.Khz == x267.Khz) && ((x245.Line.Mode == x267.Mode) && ((x245.Line.Minute == x267.Minute) && ((x245.Line.Call == x267.Call) && (((x245.Line.Sent.Report == x267.Sent.Report) && ((x245.Line.Sent.Serial == x267.Sent.Serial) && ((x245.Line.Sent.Zone == x267.Sent.Zone) && true))) && (((x245.Line.Got.Report == x267.Got.Report) && ((x245.Line.Got.Serial == x267.Got.Serial) && ((x245.Line.Got.Zone == x267.Got.Zone) && true))) && true)))))))) hb242) <| Dvl [27] (tf 28 0) ?_
         obtain rfl := Aa h270
         exact UJ (by kernel_rfl) ⟨F22, hs264.dr0, ((le226.t le234).trans le265), fI⟩
        ·refine Dkl [(17, 93), (18, 94), (19, 95), (20, 96), (21, 97), (22, 98)] 16 true 92 hb242 (tf 23 5) ?_
         refine Dkl [(23, 99), (24, 100), (25, 101)] 16 true 92 hb242 (tf 26 2) <| Dtl 26 102 4 _ (tf 27 1) (fun _ hq => p0 92 (.tmp 101) (.const (.bool false)) (.bool false) hb242) <| Dvl [27] (tf 28 0) ?_
         obtain rfl := Aa h244
         exact UJ (by kernel_rfl) ⟨F21, hs233.dr0, (le226.t le234), fI⟩
       ·refine Dkl [(12, 88), (13, 89), (14, 90)] 11 true 87 hb239 (tf 15 13) ?_
        refine Dtl 15 91 4 _ (tf 16 12) (fun _ hq => p0 87 (.tmp 90) (.const (.bool false)) (.bool false) hb239) <| Dvl [16] (tf 17 11) <| Dkl [(17, 93), (18, 94), (19, 95), (20, 96), (21, 97), (22, 98)] 16 true 92 rfl (tf 23 5) <| Dkl [(23, 99), (24, 100), (25, 101)] 16 true 92 rfl (tf 26 2) <| Dtl 26 102 4 _ (tf 27 1) (fun _ hq => p0 92 (.tmp 101) (.const (.bool false)) (.bool false) rfl) <| Dvl [27] (tf 28 0) ?_
        obtain rfl := Aa h241
        exact UJ (by kernel_rfl) ⟨F21, hs233.dr0, (le226.t le234), fI⟩
      ·refine Dkl [(8, 84), (9, 85)] 7 true 83 hb236 (tf 10 18) ?_
       refine Dtl 10 86 4 _ (tf 11 17) (fun _ hq => p0 83 (.tmp 85) (.const (.bool false)) (.bool false) hb236) <| Dvl [11] (tf 12 16) <| Dkl [(12, 88), (13, 89), (14, 90)] 11 true 87 rfl (tf 15 13) <| Dtl 15 91 4 _ (tf 16 12) (fun _ hq => p0 87 (.tmp 90) (.const (.bool false)) (.bool false) rfl) <| Dvl [16] (tf 17 11) <| Dkl [(17, 93), (18, 94), (19, 95), (20, 96), (21, 97), (22, 98)] 16 true 92 rfl (tf 23 5) <| Dkl [(23, 99), (24, 100), (25, 101)] 16 true 92 rfl (tf 26 2) <| Dtl 26 102 4 _ (tf 27 1) (fun _ hq => p0 92 (.tmp 101) (.const (.bool false)) (.bool false) rfl) <| Dvl [27] (tf 28 0) ?_
       obtain rfl := Aa h238
       exact UJ (by kernel_rfl) ⟨F21, hs233.dr0, (le226.t le234), fI⟩
     ·refine Dkl [(3, 79), (4, 80), (5, 81)] 2 true 78 hb217 (tf 6 22) ?_
      refine Dtl 6 82 4 _ (tf 7 21) (fun _ hq => p0 78 (.tmp 81) (.const (.bool false)) (.bool false) hb217) <| Dvl [7] (tf 8 20) <| Dkl [(8, 84), (9, 85)] 7 true 83 rfl (tf 10 18) <| Dtl 10 86 4 _ (tf 11 17) (fun _ hq => p0 83 (.tmp 85) (.const (.bool false)) (.bool false) rfl) <| Dvl [11] (tf 12 16) <| Dkl [(12, 88), (13, 89), (14, 90)] 11 true 87 rfl (tf 15 13) <| Dtl 15 91 4 _ (tf 16 12) (fun _ hq => p0 87 (.tmp 90) (.const (.bool false)) (.bool false) rfl) <| Dvl [16] (tf 17 11) <| Dkl [(17, 93), (18, 94), (19, 95), (20, 96), (21, 97), (22, 98)] 16 true 92 rfl (tf 23 5) <| Dkl [(23, 99), (24, 100), (25, 101)] 16 true 92 rfl (tf 26 2) <| Dtl 26 102 4 _ (tf 27 1) (fun _ hq => p0 92 (.tmp 101) (.const (.bool false)) (.bool false) rfl) <| Dvl [27] (tf 28 0) ?_
      obtain rfl := Aa h219
      exact UJ (by kernel_rfl) ⟨F18, hw208.dr0, (Ux _), fI⟩
    ·rintro f w209 ⟨F19, hs210, le211, ⟨_, rfl⟩⟩
     refine Ab <| Rt ?_
     obtain rfl := Aa h216
     exact Re [(.bool j212)] hs210 rfl
set_option maxRecDepth 100000 in
theorem QD : Jj 9223372036854775808 = some true := by kernel_rfl
def Hj (_N : Nat) : Option Bool := some true
theorem Mc : Ag Tryz.prog 19 := K3
theorem ML (N : Nat) (w0 : World) (F0 : Mem) (hF : US w0 F0) (hG : Br F0) (r : Bool) (h : Hj N = some r) :
  Calls Tryz.prog 19 ([] : List Value).toArray w0 (AB w0 F0 fun F' v => v = (.bool r)) := by
 cases h
 exact Mo 9223372036854775808 w0 F0 hF hG true QD










section
open Go.Lib (decDigits)
section
variable {N : Nat}
theorem dI {n : Int} (h0 : 0 <= n) (h : n <= 1000000000) : strconv_Itoa N n = some (decDigits n.toNat) := by
 have := LW (N := N) n.toNat (by omega)
 rwa [show ((n.toNat : Nat) : Int) = n by omega] at this
theorem TX {m : Int} (h : 1 <= m /\ m <= 3) : JK ([32, 77, 86, 68] : UQ) m (W64 (m + 1)) = some (JT m) := by
 have : m = 1 \/ m = 2 \/ m = 3 := by omega
 rcases this with rfl | rfl | rfl <;> rfl
def prL (o : Ac) (x : Line) : UQ × Int := if Dj o x = true then (B5 o x, 0) else ([], 1)
theorem prT {x : Line} {o : Ac} (h : OkL o x) : D9 x.Minute = (ED x.Minute.toNat, 0) := by
 unfold D9; rw [if_pos ⟨h.t.1, h.t.2⟩]
theorem TU {o : Ac} {E : Ad} (h : CG o E = true) : Gm o E = (EC o E, 0) := by
 unfold Gm; rw [if_pos h]
theorem Oq (o : Ac) (x : Line) (hx : Tz x) (hN : 4294967300 < N) : CV N o x = some (prL o x) := by
 unfold CV prL
 show (Cf N o x).bind _ = _
 rw [SE o x hx hN, Option.bind_some]
 cases hv : Dj o x with
 | false => rfl
 | true =>
  have h := C8.1 hv
  rw [Bool.not_true, cond_false, if_pos rfl]
  show ((Cb N x.Minute).bind fun r38 => (A7 N o x.Sent).bind fun r46 => (A7 N o x.Got).bind fun r54 => _) = _
  have hl := Rj h
  have ht := Qo o x
  rw [Ky, LG _ _ hN, LG _ _ hN, prT h, TU h.s, TU h.g, TX h.m, dI (by have := h.n; omega) (by have := h.n; omega), dI (by have := h.k; omega) (by have := h.k; omega)]
  simp only [Option.bind_some]
  unfold strings_Join
  rw [show Go.Lib.join [([81, 83, 79] : UQ), decDigits x.Num.toNat, decDigits x.Khz.toNat, JT x.Mode, ED x.Minute.toNat, x.Call, [62], EC o x.Sent, [60], EC o x.Got] [32] = B5 o x from ht, if_pos ⟨by simp, by omega⟩]
  rfl
theorem T2 (l : Log) : hdT l 0 = [67, 65, 76, 76, 32] ++ l.Call := by
 show jn [ST, l.Call] = _
 rw [Dc (by simp), DG]; rfl
theorem T1 (l : Log) : hdT l 1 = [67, 65, 84, 69, 71, 79, 82, 89, 32] ++ decDigits l.Category.toNat := by
 show jn [TN, decDigits l.Category.toNat] = _
 rw [Dc (by simp), DG]; rfl
theorem T0 (l : Log) : hdT l 2 = [80, 79, 87, 69, 82, 32] ++ decDigits l.Power.toNat := by
 show jn [TL, decDigits l.Power.toNat] = _
 rw [Dc (by simp), DG]; rfl
theorem TZ (l : Log) : hdT l 3 = [67, 76, 65, 73, 77, 69, 68, 32] ++ decDigits l.Claimed.toNat := by
 show jn [TM, decDigits l.Claimed.toNat] = _
 rw [Dc (by simp), DG]; rfl
end
end























section
variable {N : Nat}
theorem NW {α : Type} [DecidableEq α] [BEq α] [LawfulBEq α] (x y : α) : (x == y) = decide (x = y) := by
 by_cases h : x = y
 ·subst h; simp
 ·rw [decide_eq_false h]; simpa using h
end
section
variable {N : Nat}
theorem OT {α : Type} {l : List α} {i j : Nat} (h : i <= j) (hj : j <= l.length) : sub l (i : Int) (j : Int) = some ((l.take j).drop i) := by
 unfold sub
 rw [if_pos ⟨by omega, by omega, by omega⟩]
 simp
end

section
open Go.Lib (decDigits)
def PY : Line := { Num := 0, Khz := 0, Mode := 0, Minute := 0, Call := [], Sent := { Report := 0, Serial := 0, Zone := 0 }, Got := { Report := 0, Serial := 0, Zone := 0 } }
noncomputable def paL (o : Ac) (s : UQ) : Line × Int := match IF o s with
 | some x => (x, 0)
 | none => (PY, 20)
theorem Sm {o : Ac} {x : Line} (h : Dj o x = true) : paL o (B5 o x) = (x, 0) := by
 unfold paL; rw [Fh.2 ⟨h, rfl⟩]
theorem Jb {o : Ac} {s : UQ} (h : ∀ x, Dj o x = true -> B5 o x ≠ s) : paL o s = (PY, 20) := by
 unfold paL; rw [Oj.2 h]
theorem EL {α : Type} {l : List α} (n : Nat) {w : α} (h : l[n]? = some w) : idx l (n : Int) = some w := by
 have hn : n < l.length := by
  rcases Nat.lt_or_ge n l.length with h' | h'
  ·exact h'
  ·rw [List.getElem?_eq_none h'] at h; cases h
 rw [Fo hn]
 rwa [List.getElem?_eq_getElem hn] at h
def KU (l : List UQ) : Nat := (l.map fun w => w.length + 1).sum
theorem L0 : ∀ (l : List UQ), (jn l).length = KU l - 1
 | [] => rfl
 | [x] => by rw [DG]; simp [KU]
 | x :: y :: l => by
  have ih := L0 (y :: l)
  rw [Dc (by simp), List.length_append, List.length_cons, ih]
  simp only [KU, List.map_cons, List.sum_cons]
  omega
theorem LZ {a b : List UQ} (h : a.Sublist b) : KU a <= KU b := by
 induction h with
 | slnil => exact Nat.le_refl _
 | cons x _ ih => simp only [KU, List.map_cons, List.sum_cons] at ih ⊢; omega
 | cons_cons x _ ih => simp only [KU, List.map_cons, List.sum_cons] at ih ⊢; omega
theorem Jk (l : List UQ) : l.length <= KU l := by
 induction l with
 | nil => exact Nat.le_refl _
 | cons x l ih => simp only [KU, List.map_cons, List.sum_cons, List.length_cons] at ih ⊢; omega
theorem Nx (s : UQ) : KU (pcs 32 s) = s.length + 1 := by
 have h1 := L0 (pcs 32 s)
 have h2 := Jk (pcs 32 s)
 have h3 := PP 32 s
 rw [Rn] at h1
 omega
theorem N3 {s w : UQ} (h : w ∈ pcs 32 s) : w.length <= s.length := by
 have h1 := LZ (List.singleton_sublist.2 h)
 rw [Nx] at h1
 simp only [KU, List.map_cons, List.map_nil, List.sum_cons, List.sum_nil] at h1
 omega
section
variable {N : Nat}
theorem Rh (l : List UQ) (w : UQ) (hl : l.length < 4000000000) (hN : 4294967300 < N) :
  (∃ k, ∃ h : k < l.length, AN N l w = some (k : Int) /\ l[k] = w /\ ∀ y, y ∈ l.take k -> y ≠ w) \/ (AN N l w = some (-1) /\ w ∉ l) := by
 have hb : ∀ i (h : i < l.length), AE N l w (i : Int) = some (bif decide (w = l[i]) then .ret (i : Int) else .next ((i + 1 : Nat) : Int)) := fun i h => by
  unfold AE
  rw [Gs h, cond_true, Fo h, Option.bind_some, NW, I2 i (by omega)]
  cases decide (w = l[i]) <;> rfl
 by_cases hw : w ∈ l
 ·have hex : ∃ k, ∃ h : k < l.length, l[k] = w /\ ∀ i (hi : i < l.length), i < k -> l[i] ≠ w := by
   obtain ⟨j, hj, e⟩ := List.getElem_of_mem hw
   have : ∀ n j, j <= n -> ∀ hj : j < l.length, l[j] = w -> ∃ k, ∃ h : k < l.length, l[k] = w /\ ∀ i (hi : i < l.length), i < k -> l[i] ≠ w := by
    intro n
    induction n with
    | zero => intro j hjn hj e; exact ⟨j, hj, e, fun i _ hij => by omega⟩
    | succ n ih =>
     intro j hjn hj e
     by_cases hx : ∃ i, ∃ h : i < l.length, i < j /\ l[i] = w
     ·obtain ⟨i, hi, hij, e'⟩ := hx
      exact ih i (by omega) hi e'
     ·exact ⟨j, hj, e, fun i hi hij e' => hx ⟨i, hi, hij, e'⟩⟩
   exact this j j (Nat.le_refl _) hj e
  obtain ⟨k, hk, e, hm⟩ := hex
  refine .inl ⟨k, hk, ?_, e, fun y hy => ?_⟩
  ·unfold AN
   have := Lk (N := N) (body := AE N l w) (fun i => (i : Int)) (o := .ret (k : Int)) k (fun i hi => by
    rw [hb i (by omega), decide_eq_false (fun e' => hm i (by omega) hi e'.symm)]; rfl) (by rw [hb k hk, decide_eq_true e.symm]; rfl) (fun _ h => by cases h) (by omega)
   rw [show (0 : Int) = ((0 : Nat) : Int) from rfl, this]
   rfl
  ·rw [List.mem_take_iff_getElem] at hy
   obtain ⟨j, hj, rfl⟩ := hy
   exact hm j (by omega) (by omega)
 ·refine .inr ⟨?_, hw⟩
  unfold AN
  have := Lk (N := N) (body := AE N l w) (fun i => (i : Int)) (o := .done (l.length : Int)) l.length (fun i hi => by
   rw [hb i hi, decide_eq_false (fun e' => hw (by rw [e']; exact List.getElem_mem hi))]; rfl) (by
   unfold AE
   rw [EK, cond_false]) (fun _ h => by cases h) (by omega)
  rw [show (0 : Int) = ((0 : Nat) : Int) from rfl, this]
  rfl
theorem M3 (w : UQ) (hw : w.length < 4000000000) : ∃ r, AD N w = some r := by
 have hb := @Go.Lib.atoiAll_bounds w
 have hs := Go.Lib.atoiSat_bounds w
 unfold AD BN
 rw [if_pos (by omega)]
 cases h : Go.Lib.atoiAll w with
 | ok v =>
  have := hb h
  rw [Option.bind_some]
  simp only [Bool.not_false, cond_true]
  unfold strconv_Itoa
  rw [if_pos (by omega)]
  exact ⟨_, rfl⟩
 | range => exact ⟨_, rfl⟩
 | _ => exact ⟨_, rfl⟩
theorem Jd (u : Nat) (h : u <= 100000000) : ∃ b, AD N (decDigits u) = some ((u : Int), b) := by
 have hl : (decDigits u).length <= 9 := Hr 8 u (by omega)
 unfold AD BN
 rw [if_pos (by omega), Go.Lib.atoiAll_short _ (by omega), Mr (Hs u) (by have := L6 u; omega), Kf]
 rw [show (Go.Lib.NumEnd.ofOption (some (u : Int))) = .ok (u : Int) from rfl]
 simp only [Option.bind_some, Bool.not_false, cond_true]
 rw [LW u (by omega)]
 exact ⟨_, rfl⟩
theorem Pk {m : Int} (h : 1 <= m /\ m <= 3) : strings_Index N ([32, 77, 86, 68] : UQ) (JT m) = some m := by
 have : m = 1 \/ m = 2 \/ m = 3 := by omega
 rcases this with rfl | rfl | rfl <;> rfl
theorem pT {t : UQ} (h : t.length < 4294967281) : Em N t = some (Gp t) := if_pos h
theorem pX {L : Ac} {t : UQ} (h : t.length < 4294967281) : B9 N L t = some (BO L t) := if_pos h
theorem Rc {m : List UQ} (h : KU m < 4294967296) : strings_Join N m [32] = some (jn m) := by
 have h1 := L0 m
 have h2 := Jk m
 unfold jn at h1
 unfold strings_Join
 rw [if_pos ⟨by omega, by omega⟩]; rfl
structure TJ (o : Ac) (l : List UQ) (k : Nat) (x : Line) : Prop where
 a : l[1]? = some (decDigits x.Num.toNat)
 b : l[2]? = some (decDigits x.Khz.toNat)
 c : l[3]? = some (JT x.Mode)
 d : ∀ t u, l[4]? = some t -> l[5]? = some u -> t ++ [32] ++ u = ED x.Minute.toNat
 e : l[6]? = some x.Call
 f : l[7]? = some [62]
 n : 9 <= l.length /\ 8 <= k
 s : (l.take k).drop 8 = fsw o x.Sent
 g : l.drop (k + 1) = fsw o x.Got
theorem Uj {o : Ac} {x : Line} (h : Dj o x = true) {k : Nat} (hk : k < (pcs 32 (B5 o x)).length) (h60 : (pcs 32 (B5 o x))[k] = [60]) (hp : ∀ y, y ∈ (pcs 32 (B5 o x)).take k -> y ≠ [60]) : TJ o (pcs 32 (B5 o x)) k x := by
 have hx := C8.1 h
 have hl := Gw hx
 generalize pcs 32 (B5 o x) = l at *
 have h1 : l = l.take k ++ [60] :: l.drop (k + 1) := by
  rw [<- h60, List.getElem_cons_drop, List.take_append_drop]
 have h2 : EI o x = (Ir x ++ fsw o x.Sent) ++ [60] :: fsw o x.Got := by unfold EI; rw [List.append_assoc]
 obtain ⟨e1, e2⟩ := LA (a := l.take k) (b := l.drop (k + 1)) (c := Ir x ++ fsw o x.Sent) (d := fsw o x.Got) hp (by
  intro w hw
  rcases List.mem_append.1 hw with h' | h'
  ·exact (M6 hx w h').2
  ·exact (EX hx.s w h').2.1) (by rw [<- h1, <- h2, hl])
 have hk8 : k = 8 + (fsw o x.Sent).length := by
  have := congrArg List.length e1
  rw [List.length_take, List.length_append, M7] at this
  omega
 refine ⟨by rw [hl]; rfl, by rw [hl]; rfl, by rw [hl]; rfl, fun t u ht hu => ?_, by rw [hl]; rfl, by rw [hl]; rfl, ⟨by omega, by omega⟩, by rw [e1]; rfl, e2⟩
 rw [hl] at ht hu
 have : ED x.Minute.toNat = jn (tW x.Minute.toNat) := N5 _
 rw [this]
 unfold tW
 rw [Dc (by simp), DG]
 have ht' : some (decDigits (x.Minute.toNat / 1440 + 1)) = some t := ht
 have hu' : some (dP 2 (x.Minute.toNat / 60 % 24) ++ dP 2 (x.Minute.toNat % 60)) = some u := hu
 cases ht'; cases hu'
 simp
theorem Ot (o : Ac) (s : UQ) (hs : s.length <= 1000000000) (hN : 4294967300 < N) : CW N o s = some (paL o s) := by
 unfold CW
 rw [show ({ Report := o.Report, Serial := o.Serial, Zone := o.Zone } : Ac) = o from rfl, Li 32 (by omega), Option.bind_some]
 have hsum := Nx s
 have hlen := Jk (pcs 32 s)
 have hwl : ∀ w, w ∈ pcs 32 s -> w.length <= s.length := fun w hw => N3 hw
 have hhit : ∀ {x : Line} {k : Nat} (h : Dj o x = true) (he : B5 o x = s) (hk : k < (pcs 32 s).length) (h60 : (pcs 32 s)[k] = [60]) (hp : ∀ y, y ∈ (pcs 32 s).take k -> y ≠ [60]), TJ o (pcs 32 s) k x := by
  intro x k h he hk h60 hp
  subst he
  exact Uj h hk h60 hp
 have hsix : ∀ {x : Line} (h : Dj o x = true) (he : B5 o x = s), [60] ∈ pcs 32 s := by
  intro x h he
  subst he
  rw [Gw (C8.1 h)]
  unfold EI; simp
 generalize pcs 32 s = l at *
 rcases Rh (N := N) l [60] (by omega) hN with ⟨k, hk, hi, h60, hp⟩ | ⟨hi, hno⟩
 ·rw [hi, Option.bind_some]
  by_cases hg : 9 <= l.length /\ 8 <= k /\ l[7]? = some [62]
  ·obtain ⟨g1, g2, g3⟩ := hg
   rw [decide_eq_false (show ¬ (l.length : Int) < 9 by omega), cond_false, decide_eq_false (show ¬ (k : Int) < 8 by omega), cond_false, show idx l 7 = some [62] from EL 7 g3]
   rw [show ((some ([62] : UQ)).bind fun x62 => some (x62 != ([62] : UQ))) = some false from rfl, Option.bind_some, cond_false]
   have hit : ∀ x, Dj o x = true -> B5 o x = s -> TJ o l k x := fun x h he => hhit h he hk h60 hp
   obtain ⟨w1, e1⟩ : ∃ w, l[1]? = some w := ⟨_, List.getElem?_eq_getElem (by omega)⟩
   obtain ⟨w2, e2⟩ : ∃ w, l[2]? = some w := ⟨_, List.getElem?_eq_getElem (by omega)⟩
   obtain ⟨w3, e3⟩ : ∃ w, l[3]? = some w := ⟨_, List.getElem?_eq_getElem (by omega)⟩
   obtain ⟨w4, e4⟩ : ∃ w, l[4]? = some w := ⟨_, List.getElem?_eq_getElem (by omega)⟩
   obtain ⟨w5, e5⟩ : ∃ w, l[5]? = some w := ⟨_, List.getElem?_eq_getElem (by omega)⟩
   obtain ⟨w6, e6⟩ : ∃ w, l[6]? = some w := ⟨_, List.getElem?_eq_getElem (by omega)⟩
   have z1 := hwl _ (List.mem_of_getElem? e1)
   have z2 := hwl _ (List.mem_of_getElem? e2)
   have z4 := hwl _ (List.mem_of_getElem? e4)
   have z5 := hwl _ (List.mem_of_getElem? e5)
   have z6 := hwl _ (List.mem_of_getElem? e6)
   have n1 : ∃ r, AD N w1 = some r /\ ∀ x, Dj o x = true -> B5 o x = s -> r.1 = x.Num := by
    obtain ⟨r, hr⟩ := M3 (N := N) w1 (by omega)
    refine ⟨r, hr, fun x h he => ?_⟩
    have H := (hit x h he).a
    have hx := (C8.1 h).n
    rw [e1] at H
    cases H
    obtain ⟨b, hb⟩ := Jd (N := N) x.Num.toNat (by omega)
    rw [hb] at hr
    cases hr
    show ((x.Num.toNat : Nat) : Int) = x.Num
    omega
   have n2 : ∃ r, AD N w2 = some r /\ ∀ x, Dj o x = true -> B5 o x = s -> r.1 = x.Khz := by
    obtain ⟨r, hr⟩ := M3 (N := N) w2 (by omega)
    refine ⟨r, hr, fun x h he => ?_⟩
    have H := (hit x h he).b
    have hx := (C8.1 h).k
    rw [e2] at H
    cases H
    obtain ⟨b, hb⟩ := Jd (N := N) x.Khz.toNat (by omega)
    rw [hb] at hr
    cases hr
    show ((x.Khz.toNat : Nat) : Int) = x.Khz
    omega
   have n3 : ∃ r, strings_Index N ([32, 77, 86, 68] : UQ) w3 = some r /\ ∀ x, Dj o x = true -> B5 o x = s -> r = x.Mode := by
    refine ⟨_, if_pos (by decide), fun x h he => ?_⟩
    have H := (hit x h he).c
    rw [e3] at H
    cases H
    have := Pk (N := N) (C8.1 h).m
    unfold strings_Index at this
    rw [if_pos (by decide)] at this
    exact Option.some.inj this
   obtain ⟨r1, hr1, k1⟩ := n1
   obtain ⟨r2, hr2, k2⟩ := n2
   obtain ⟨r3, hr3, k3⟩ := n3
   rw [show idx l 1 = some w1 from EL 1 e1, Option.bind_some, hr1, Option.bind_some, show idx l 2 = some w2 from EL 2 e2, Option.bind_some, hr2, Option.bind_some]
   rw [show idx l 4 = some w4 from EL 4 e4, Option.bind_some, CD (by simp; omega), Option.bind_some, show idx l 5 = some w5 from EL 5 e5, Option.bind_some, CD (by simp; omega), Option.bind_some, pT (by simp; omega), Option.bind_some, Option.bind_some]
   have s1 : sub l 8 (k : Int) = some ((l.take k).drop 8) := OT (i := 8) g2 (by omega)
   have s2 : sub l (W64 ((k : Int) + 1)) (l.length : Int) = some (l.drop (k + 1)) := by
    rw [I2 k (by omega), OT (by omega) (Nat.le_refl _), List.take_length]
   have j1 := LZ ((List.drop_sublist 8 (l.take k)).trans (List.take_sublist k l))
   have j2 := LZ (List.drop_sublist (k + 1) l)
   have jl1 := L0 ((l.take k).drop 8)
   have jl2 := L0 (l.drop (k + 1))
   rw [s1, Option.bind_some, Rc (by omega), Option.bind_some, pX (by omega), Option.bind_some, Option.bind_some, s2, Option.bind_some, Rc (by omega), Option.bind_some, pX (by omega), Option.bind_some, Option.bind_some]
   rw [show idx l 3 = some w3 from EL 3 e3, Option.bind_some, show idx l 6 = some w6 from EL 6 e6, Option.bind_some, hr3, Option.bind_some, Option.bind_some]
   have ky : ∀ x, Dj o x = true -> B5 o x = s -> ({ Num := r1.1, Khz := r2.1, Mode := r3, Minute := (Gp (w4 ++ [32] ++ w5)).1, Call := w6, Sent := { Report := (BO o (jn ((l.take k).drop 8))).1.Report, Serial := (BO o (jn ((l.take k).drop 8))).1.Serial, Zone := (BO o (jn ((l.take k).drop 8))).1.Zone }, Got := { Report := (BO o (jn (l.drop (k + 1)))).1.Report, Serial := (BO o (jn (l.drop (k + 1)))).1.Serial, Zone := (BO o (jn (l.drop (k + 1)))).1.Zone } } : Line) = x := by
    intro x h he
    have H := hit x h he
    have hx := C8.1 h
    have t1 := H.d w4 w5 e4 e5
    have t2 := H.e
    rw [e6] at t2
    cases t2
    rw [k1 x h he, k2 x h he, k3 x h he, t1, IE (by have := hx.t; omega), H.s, H.g, <- G3, <- G3, Fg hx.s, Fg hx.g]
    have := hx.t
    show ({ Num := x.Num, Khz := x.Khz, Mode := x.Mode, Minute := ((x.Minute.toNat : Nat) : Int), Call := x.Call, Sent := x.Sent, Got := x.Got } : Line) = x
    rw [show ((x.Minute.toNat : Nat) : Int) = x.Minute by omega]
   have hf : Tz ({ Num := r1.1, Khz := r2.1, Mode := r3, Minute := (Gp (w4 ++ [32] ++ w5)).1, Call := w6, Sent := { Report := (BO o (jn ((l.take k).drop 8))).1.Report, Serial := (BO o (jn ((l.take k).drop 8))).1.Serial, Zone := (BO o (jn ((l.take k).drop 8))).1.Zone }, Got := { Report := (BO o (jn (l.drop (k + 1)))).1.Report, Serial := (BO o (jn (l.drop (k + 1)))).1.Serial, Zone := (BO o (jn (l.drop (k + 1)))).1.Zone } } : Line) := by
    show w6.length < 4000000000
    omega
   simp only
   generalize ({ Num := r1.1, Khz := r2.1, Mode := r3, Minute := (Gp (w4 ++ [32] ++ w5)).1, Call := w6, Sent := { Report := (BO o (jn ((l.take k).drop 8))).1.Report, Serial := (BO o (jn ((l.take k).drop 8))).1.Serial, Zone := (BO o (jn ((l.take k).drop 8))).1.Zone }, Got := { Report := (BO o (jn (l.drop (k + 1)))).1.Report, Serial := (BO o (jn (l.drop (k + 1)))).1.Serial, Zone := (BO o (jn (l.drop (k + 1)))).1.Zone } } : Line) = y at ky hf ⊢
   rw [Oq o y hf hN, Option.bind_some]
   unfold prL
   cases hv : Dj o y with
   | false =>
    rw [if_neg (by simp)]
    rw [Jb (fun x h he => by
     have := ky x h he
     rw [this, h] at hv; cases hv)]
    rfl
   | true =>
    rw [if_pos rfl]
    simp only [bne_self_eq_false, Bool.false_or]
    by_cases he : B5 o y = s
    ·subst he
     rw [Sm hv]
     simp
    ·rw [Jb (fun x h he' => by
      have := ky x h he'
      rw [this] at he
      exact he he')]
     rw [show (B5 o y != s) = true by simpa using he]
     rfl
  ·have hb : (bif (decide ((l.length : Int) < 9)) then some true else (bif (decide ((k : Int) < 8)) then some true else ((idx l 7).bind fun x62 => some (x62 != ([62] : UQ))))) = some true := by
    by_cases g1 : 9 <= l.length
    ·rw [decide_eq_false (show ¬ (l.length : Int) < 9 by omega), cond_false]
     by_cases g2 : 8 <= k
     ·rw [decide_eq_false (show ¬ (k : Int) < 8 by omega), cond_false]
      obtain ⟨w7, e7⟩ : ∃ w, l[7]? = some w := ⟨_, List.getElem?_eq_getElem (by omega)⟩
      rw [show idx l 7 = some w7 from EL 7 e7, Option.bind_some]
      have : w7 ≠ [62] := fun e => hg ⟨g1, g2, by rw [e7, e]⟩
      rw [show (w7 != ([62] : UQ)) = true by simpa using this]
     ·rw [decide_eq_true (show (k : Int) < 8 by omega), cond_true]
    ·rw [decide_eq_true (show (l.length : Int) < 9 by omega), cond_true]
   rw [hb, Option.bind_some, cond_true, Jb (fun x h he => hg (by
    have H := hhit h he hk h60 hp
    exact ⟨H.n.1, H.n.2, H.f⟩))]
   rfl
 ·rw [hi, Option.bind_some]
  have hb : (bif (decide ((l.length : Int) < 9)) then some true else (bif (decide ((-1 : Int) < 8)) then some true else ((idx l 7).bind fun x62 => some (x62 != ([62] : UQ))))) = some true := by
   cases decide ((l.length : Int) < 9) <;> rfl
  rw [hb, Option.bind_some, cond_true, Jb (fun x h he => hno (hsix h he))]
  rfl
end
end
section
open Go.Lib (decDigits)
theorem HO {t p : UQ} (h : Go.Lib.hasPrefix t p = true) : t = p ++ Go.Lib.trimPrefix t p := by
 unfold Go.Lib.trimPrefix
 rw [if_pos h]
 unfold Go.Lib.hasPrefix at h
 rw [List.isPrefixOf_iff_prefix] at h
 obtain ⟨r, rfl⟩ := h
 simp
theorem Le (p r : UQ) : Go.Lib.hasPrefix (p ++ r) p = true /\ Go.Lib.trimPrefix (p ++ r) p = r := by
 have : Go.Lib.hasPrefix (p ++ r) p = true := by
  unfold Go.Lib.hasPrefix
  rw [List.isPrefixOf_iff_prefix]
  exact ⟨r, rfl⟩
 refine ⟨this, ?_⟩
 unfold Go.Lib.trimPrefix
 rw [if_pos this]; simp
def EW : Log := { Call := [], Category := 0, Power := 0, Claimed := 0, Jumps := [], Lines := [] }
noncomputable def hdr (k : Nat) (l : Log) (t : UQ) : Option Log := @dite _ (∃ v, hdV v k = true /\ hdT v k = t) (Classical.propDecidable _) (fun h => some (hdS k (Classical.choose h) l)) (fun _ => none)
theorem Rx {k : Nat} {l v : Log} {t : UQ} (h1 : hdV v k = true) (h2 : hdT v k = t) : hdr k l t = some (hdS k v l) := by
 unfold hdr
 have hex : ∃ v, hdV v k = true /\ hdT v k = t := ⟨v, h1, h2⟩
 rw [dif_pos hex]
 have h3 := Classical.choose_spec hex
 rw [Tr h3.1 h1 (h3.2.trans h2.symm)]
theorem Ry {k : Nat} {l : Log} {t : UQ} (h : ∀ v, hdV v k = true -> hdT v k ≠ t) : hdr k l t = none := by
 unfold hdr
 rw [dif_neg (fun ⟨v, h1, h2⟩ => h v h1 h2)]
theorem FY (k : Nat) (t : UQ) : (∃ v, hdV v k = true /\ hdT v k = t /\ ∀ l, hdr k l t = some (hdS k v l)) \/ ((∀ v, hdV v k = true -> hdT v k ≠ t) /\ ∀ l, hdr k l t = none) := by
 by_cases h : ∃ v, hdV v k = true /\ hdT v k = t
 ·obtain ⟨v, h1, h2⟩ := h
  exact .inl ⟨v, h1, h2, fun l => Rx h1 h2⟩
 ·have : ∀ v, hdV v k = true -> hdT v k ≠ t := fun v h1 h2 => h ⟨v, h1, h2⟩
  exact .inr ⟨this, fun l => Ry this⟩
def HR (k : Nat) (st : Ah) (t : UQ) (r : Ah × Bool) : Prop := match hdr k st.l_ t with
 | some l' => r = (⟨st.o_, l', st.done_, st.ended_⟩, true)
 | none => r.2 = false
section
variable {N : Nat}
theorem Fi (w : UQ) (hw : w.length < 4000000000) : ∃ r, AD N w = some r /\ (r.2 = true -> w = Go.Lib.itoa r.1) := by
 have hb := @Go.Lib.atoiAll_bounds w
 unfold AD BN
 rw [if_pos (by omega)]
 cases h : Go.Lib.atoiAll w with
 | ok v =>
  have := hb h
  rw [Option.bind_some]
  simp only [Bool.not_false, cond_true]
  unfold strconv_Itoa
  rw [if_pos (by omega)]
  refine ⟨_, rfl, fun h => ?_⟩
  have : (Go.Lib.itoa v == w) = true := h
  rw [beq_iff_eq] at this
  exact this.symm
 | range => exact ⟨_, rfl, fun h => by cases h⟩
 | _ => exact ⟨_, rfl, fun h => by cases h⟩
theorem Gq (u : Nat) (h : u <= 100000000) : AD N (decDigits u) = some ((u : Int), true) := by
 have hl : (decDigits u).length <= 9 := Hr 8 u (by omega)
 unfold AD BN
 rw [if_pos (by omega), Go.Lib.atoiAll_short _ (by omega), Mr (Hs u) (by have := L6 u; omega), Kf]
 rw [show (Go.Lib.NumEnd.ofOption (some (u : Int))) = .ok (u : Int) from rfl]
 simp only [Option.bind_some, Bool.not_false, cond_true]
 rw [LW u (by omega), Option.bind_some, beq_self_eq_true]
 rfl
theorem Gx {v : Int} (h : 0 <= v) : Go.Lib.itoa v = decDigits v.toNat := by
 have := Go.Lib.itoa_nonneg v.toNat
 rwa [Int.toNat_of_nonneg h] at this
theorem Sy (st : Ah) (t : UQ) : ∃ r, DT N st t = some r /\ HR 0 st t r := by
 unfold DT strings_CutPrefix HR
 rw [Option.bind_some]
 rcases FY 0 t with ⟨v, h1, h2, h3⟩ | ⟨h1, h3⟩
 ·rw [h3]
  have e : t = [67, 65, 76, 76, 32] ++ v.Call := by rw [<- h2, T2]
  obtain ⟨p1, p2⟩ := Le [67, 65, 76, 76, 32] v.Call
  rw [e, p1, p2]
  have hv : Gj v.Call = true := h1
  simp only [cond_true]
  refine ⟨_, rfl, ?_⟩
  rw [hv]; rfl
 ·rw [h3]
  cases hp : Go.Lib.hasPrefix t [67, 65, 76, 76, 32] with
  | false => exact ⟨_, rfl, rfl⟩
  | true =>
   refine ⟨_, rfl, ?_⟩
   have e := HO hp
   cases hv : Gj (Go.Lib.trimPrefix t [67, 65, 76, 76, 32]) with
   | false => rfl
   | true => exact absurd (by rw [T2]; exact e.symm) (h1 { EW with Call := Go.Lib.trimPrefix t [67, 65, 76, 76, 32] } hv)
theorem Tg (st : Ah) (t : UQ) (ht : t.length <= 1000000000) : ∃ r, CO N st t ([67, 65, 84, 69, 71, 79, 82, 89] : UQ) 1 9 = some r /\ HR 1 st t r := by
 unfold CO strings_CutPrefix HR
 rw [CD (by decide), Option.bind_some, Option.bind_some, show ([67, 65, 84, 69, 71, 79, 82, 89] : UQ) ++ ([32] : UQ) = ([67, 65, 84, 69, 71, 79, 82, 89, 32] : UQ) from rfl]
 have hlt := Go.Lib.trimPrefix_le t ([67, 65, 84, 69, 71, 79, 82, 89, 32] : UQ)
 rcases FY 1 t with ⟨v, h1, h2, h3⟩ | ⟨h1, h3⟩
 ·rw [h3]
  have e : t = ([67, 65, 84, 69, 71, 79, 82, 89, 32] : UQ) ++ decDigits v.Category.toNat := by rw [<- h2, T1]
  obtain ⟨p1, p2⟩ := Le ([67, 65, 84, 69, 71, 79, 82, 89, 32] : UQ) (decDigits v.Category.toNat)
  have hv : 1 <= v.Category /\ v.Category <= 9 := by have : decide (1 <= v.Category /\ v.Category <= 9) = true := h1; simpa using this
  rw [e, p1, p2, Gq _ (by omega), Option.bind_some, show ((v.Category.toNat : Nat) : Int) = v.Category by omega]
  simp only [Bool.not_true, cond_false]
  rw [lw, decide_eq_true hv.1, decide_eq_true hv.2]
  exact ⟨_, rfl, rfl⟩
 ·rw [h3]
  obtain ⟨r, hr, hr2⟩ := Fi (N := N) (Go.Lib.trimPrefix t ([67, 65, 84, 69, 71, 79, 82, 89, 32] : UQ)) (by omega)
  rw [hr, Option.bind_some]
  cases hp : Go.Lib.hasPrefix t ([67, 65, 84, 69, 71, 79, 82, 89, 32] : UQ) with
  | false => exact ⟨_, rfl, rfl⟩
  | true =>
   simp only [Bool.not_true, cond_false]
   cases hb : r.2 with
   | false => exact ⟨_, rfl, rfl⟩
   | true =>
    simp only [Bool.not_true, cond_false]
    rw [lw]
    by_cases hw : 1 <= r.1 /\ r.1 <= 9
    ·exfalso
     have e := HO hp
     rw [hr2 hb, Gx (by omega)] at e
     exact h1 { EW with Category := r.1 } (decide_eq_true hw) (by rw [T1]; exact e.symm)
    ·have : (decide (1 <= r.1) && decide (r.1 <= 9)) = false := by
      rw [Bool.and_eq_false_iff, decide_eq_false_iff_not, decide_eq_false_iff_not]; omega
     rw [this]
     exact ⟨_, rfl, rfl⟩
theorem Te (st : Ah) (t : UQ) (ht : t.length <= 1000000000) : ∃ r, CM N st t ([80, 79, 87, 69, 82] : UQ) 1 9999 = some r /\ HR 2 st t r := by
 unfold CM strings_CutPrefix HR
 rw [CD (by decide), Option.bind_some, Option.bind_some, show ([80, 79, 87, 69, 82] : UQ) ++ ([32] : UQ) = ([80, 79, 87, 69, 82, 32] : UQ) from rfl]
 have hlt := Go.Lib.trimPrefix_le t ([80, 79, 87, 69, 82, 32] : UQ)
 rcases FY 2 t with ⟨v, h1, h2, h3⟩ | ⟨h1, h3⟩
 ·rw [h3]
  have e : t = ([80, 79, 87, 69, 82, 32] : UQ) ++ decDigits v.Power.toNat := by rw [<- h2, T0]
  obtain ⟨p1, p2⟩ := Le ([80, 79, 87, 69, 82, 32] : UQ) (decDigits v.Power.toNat)
  have hv : 1 <= v.Power /\ v.Power <= 9999 := by have : decide (1 <= v.Power /\ v.Power <= 9999) = true := h1; simpa using this
  rw [e, p1, p2, Gq _ (by omega), Option.bind_some, show ((v.Power.toNat : Nat) : Int) = v.Power by omega]
  simp only [Bool.not_true, cond_false]
  rw [lw, decide_eq_true hv.1, decide_eq_true hv.2]
  exact ⟨_, rfl, rfl⟩
 ·rw [h3]
  obtain ⟨r, hr, hr2⟩ := Fi (N := N) (Go.Lib.trimPrefix t ([80, 79, 87, 69, 82, 32] : UQ)) (by omega)
  rw [hr, Option.bind_some]
  cases hp : Go.Lib.hasPrefix t ([80, 79, 87, 69, 82, 32] : UQ) with
  | false => exact ⟨_, rfl, rfl⟩
  | true =>
   simp only [Bool.not_true, cond_false]
   cases hb : r.2 with
   | false => exact ⟨_, rfl, rfl⟩
   | true =>
    simp only [Bool.not_true, cond_false]
    rw [lw]
    by_cases hw : 1 <= r.1 /\ r.1 <= 9999
    ·exfalso
     have e := HO hp
     rw [hr2 hb, Gx (by omega)] at e
     exact h1 { EW with Power := r.1 } (decide_eq_true hw) (by rw [T0]; exact e.symm)
    ·have : (decide (1 <= r.1) && decide (r.1 <= 9999)) = false := by
      rw [Bool.and_eq_false_iff, decide_eq_false_iff_not, decide_eq_false_iff_not]; omega
     rw [this]
     exact ⟨_, rfl, rfl⟩
theorem Tf (st : Ah) (t : UQ) (ht : t.length <= 1000000000) : ∃ r, CN N st t ([67, 76, 65, 73, 77, 69, 68] : UQ) 0 1000000 = some r /\ HR 3 st t r := by
 unfold CN strings_CutPrefix HR
 rw [CD (by decide), Option.bind_some, Option.bind_some, show ([67, 76, 65, 73, 77, 69, 68] : UQ) ++ ([32] : UQ) = ([67, 76, 65, 73, 77, 69, 68, 32] : UQ) from rfl]
 have hlt := Go.Lib.trimPrefix_le t ([67, 76, 65, 73, 77, 69, 68, 32] : UQ)
 rcases FY 3 t with ⟨v, h1, h2, h3⟩ | ⟨h1, h3⟩
 ·rw [h3]
  have e : t = ([67, 76, 65, 73, 77, 69, 68, 32] : UQ) ++ decDigits v.Claimed.toNat := by rw [<- h2, TZ]
  obtain ⟨p1, p2⟩ := Le ([67, 76, 65, 73, 77, 69, 68, 32] : UQ) (decDigits v.Claimed.toNat)
  have hv : 0 <= v.Claimed /\ v.Claimed <= 1000000 := by have : decide (0 <= v.Claimed /\ v.Claimed <= 1000000) = true := h1; simpa using this
  rw [e, p1, p2, Gq _ (by omega), Option.bind_some, show ((v.Claimed.toNat : Nat) : Int) = v.Claimed by omega]
  simp only [Bool.not_true, cond_false]
  rw [lw, decide_eq_true hv.1, decide_eq_true hv.2]
  exact ⟨_, rfl, rfl⟩
 ·rw [h3]
  obtain ⟨r, hr, hr2⟩ := Fi (N := N) (Go.Lib.trimPrefix t ([67, 76, 65, 73, 77, 69, 68, 32] : UQ)) (by omega)
  rw [hr, Option.bind_some]
  cases hp : Go.Lib.hasPrefix t ([67, 76, 65, 73, 77, 69, 68, 32] : UQ) with
  | false => exact ⟨_, rfl, rfl⟩
  | true =>
   simp only [Bool.not_true, cond_false]
   cases hb : r.2 with
   | false => exact ⟨_, rfl, rfl⟩
   | true =>
    simp only [Bool.not_true, cond_false]
    rw [lw]
    by_cases hw : 0 <= r.1 /\ r.1 <= 1000000
    ·exfalso
     have e := HO hp
     rw [hr2 hb, Gx (by omega)] at e
     exact h1 { EW with Claimed := r.1 } (decide_eq_true hw) (by rw [TZ]; exact e.symm)
    ·have : (decide (0 <= r.1) && decide (r.1 <= 1000000)) = false := by
      rw [Bool.and_eq_false_iff, decide_eq_false_iff_not, decide_eq_false_iff_not]; omega
     rw [this]
     exact ⟨_, rfl, rfl⟩
theorem Tm {l : List Int} (h : KV l = true) : l.length <= 16 := by
 unfold KV at h
 simp only [Bool.and_eq_true, decide_eq_true_eq] at h
 exact h.2.2
theorem OP {α : Type} {l : List α} {x : α} (h : l.length + 1 < 4294967296) : Dr l [x] = some (l ++ [x]) := by
 unfold Dr; rw [if_pos (by simp; omega)]
theorem hd0 : ∀ (M : List UQ) (h : 0 < M.length), M = M[0] :: M.drop 1
 | a :: r, _ => rfl
theorem Ra (st : Ah) (t : UQ) (ht : t.length <= 1000000000) (hN : 4294967300 < N) : ∃ r, DD N st t = some r /\ HR 4 st t r := by
 unfold DD HR
 rw [Li 32 (by omega), Option.bind_some]
 have hne := Ha 32 t
 have hlen := Jk (pcs 32 t)
 rw [Nx] at hlen
 have hpos : 1 <= (pcs 32 t).length := by
  rcases Nat.eq_zero_or_pos (pcs 32 t).length with h | h
  ·exact absurd (List.length_eq_zero_iff.1 h) hne
  ·exact h
 rw [show sub (pcs 32 t) 1 ((pcs 32 t).length : Int) = some ((pcs 32 t).drop 1) by
  have := OT (l := pcs 32 t) (i := 1) (j := (pcs 32 t).length) hpos (Nat.le_refl _)
  rwa [List.take_length] at this, Option.bind_some]
 rcases FY 4 t with ⟨v, h1, h2, h3⟩ | ⟨h1, h3⟩
 ·rw [h3]
  have hl : pcs 32 t = N4 :: v.Jumps.map fun n => decDigits n.toNat := by rw [<- h2]; exact Po h1
  have hj : KV v.Jumps = true := h1
  have hjl := Tm hj
  have hja := Lj hj
  rw [hl]
  rw [show (N4 :: v.Jumps.map fun n => decDigits n.toNat).drop 1 = v.Jumps.map fun n => decDigits n.toNat from rfl]
  have key := Lk (N := N) (body := A9 N st t (N4 :: v.Jumps.map fun n => decDigits n.toNat) (v.Jumps.map fun n => decDigits n.toNat)) (fun i => (v.Jumps.take i, (i : Int))) (o := .done (v.Jumps, (v.Jumps.length : Int))) v.Jumps.length (fun i hi => by
   unfold A9
   simp only [List.length_map]
   have hx := hja _ (List.getElem_mem hi)
   rw [Gs hi, cond_true, Fo (by simpa using hi), Option.bind_some, List.getElem_map, Gq _ (by omega), Option.bind_some]
   simp only [Bool.not_true, cond_false]
   rw [OP (by simp; omega), Option.bind_some, I2 i (by omega), List.take_add_one, List.getElem?_eq_getElem hi, Int.toNat_of_nonneg (by omega)]
   rfl) (by
   unfold A9
   simp only [List.length_map]
   rw [EK, cond_false, List.take_length]) (fun _ h => by cases h) (by omega)
  rw [show (([] : List Int), (0 : Int)) = (v.Jumps.take 0, ((0 : Nat) : Int)) from rfl, key, Option.bind_some]
  show ∃ r, ((bif (N4 == ([74, 85, 77, 80, 83] : UQ)) then ((CU N v.Jumps).bind fun r143 => some r143) else some false).bind _) = some r /\ _
  rw [show (N4 == ([74, 85, 77, 80, 83] : UQ)) = true from rfl, cond_true, PU _ (by omega) hN, hj]
  exact ⟨_, rfl, rfl⟩
 ·rw [h3]
  have hjn := Rn t
  generalize hL : pcs 32 t = L at *
  have hlt : (L.drop 1).length < N := by rw [List.length_drop]; omega
  have hwl : ∀ w, w ∈ L.drop 1 -> w.length <= t.length := fun w hw => N3 (by rw [hL]; exact List.mem_of_mem_drop hw)
  have hl0 : L = L[0] :: L.drop 1 := hd0 L (by omega)
  obtain ⟨o, ho, hR⟩ := Fm (body := A9 N st t L (L.drop 1)) (L.drop 1).length (fun i s => s.2 = (i : Int) /\ s.1.length = i /\ (L.drop 1).take i = s.1.map Go.Lib.itoa)
   (fun o => (∃ js k, o = .done (js, k) /\ L.drop 1 = js.map Go.Lib.itoa) \/ o = .ret (st, false)) (by
    rintro i ⟨js, q⟩ hi ⟨e1, e2, e3⟩
    simp only at e1 e2 e3
    subst e1
    by_cases h : i < (L.drop 1).length
    ·unfold A9
     simp only
     rw [Gs h, cond_true, Fo h, Option.bind_some]
     obtain ⟨r, hr, hr2⟩ := Fi (N := N) (L.drop 1)[i] (by have := hwl _ (List.getElem_mem h); omega)
     rw [hr, Option.bind_some]
     cases hb : r.2 with
     | false => exact .inr ⟨.ret (st, false), rfl, (fun _ e => by cases e), .inr rfl⟩
     | true =>
      have hll : (L.drop 1).length <= 1000000001 := by rw [List.length_drop]; omega
      refine .inl ⟨(js ++ [r.1], ((i + 1 : Nat) : Int)), ?_, ⟨rfl, by simp [e2], ?_⟩, h⟩
      ·simp only [Bool.not_true, cond_false]
       rw [OP (by omega), Option.bind_some, I2 i (by omega)]
      ·simp only
       rw [List.take_add_one, List.getElem?_eq_getElem h, e3, List.map_append, hr2 hb]; rfl
    ·have hii : i = (L.drop 1).length := by omega
     unfold A9
     simp only
     rw [hii, EK, cond_false]
     refine .inr ⟨_, rfl, (fun _ e => by cases e), .inl ⟨js, _, rfl, ?_⟩⟩
     rw [hii, List.take_length] at e3
     exact e3) (L.drop 1).length N 0 ([], 0) (by omega) ⟨rfl, rfl, by simp⟩ hlt
  rw [ho]
  rcases hR with ⟨js, k, rfl, hjs⟩ | rfl
  ·show ∃ r, (((idx L 0).bind fun x126 => (bif (x126 == ([74, 85, 77, 80, 83] : UQ)) then ((CU N js).bind fun r143 => some r143) else some false)).bind _) = some r /\ _
   have hjl : js.length <= 1000000001 := by
    have := congrArg List.length hjs
    rw [List.length_drop, List.length_map] at this
    omega
   rw [show idx L 0 = some L[0] from EL 0 (List.getElem?_eq_getElem (by omega)), Option.bind_some, PU js (by omega) hN, NW]
   by_cases hw : L[0] = [74, 85, 77, 80, 83]
   ·rw [decide_eq_true hw, cond_true]
    cases hb : KV js with
    | false => exact ⟨_, rfl, rfl⟩
    | true =>
     exfalso
     refine h1 { EW with Jumps := js } hb ?_
     have e1 : (js.map fun n => decDigits n.toNat) = js.map Go.Lib.itoa := List.map_congr_left fun n hn => (Gx (by have := Lj hb n hn; omega)).symm
     show jn (N4 :: js.map fun n => decDigits n.toNat) = t
     rw [e1, <- hjs, show N4 = L[0] from hw.symm, <- hl0, hjn]
   ·rw [decide_eq_false hw, cond_false]
    exact ⟨_, rfl, rfl⟩
  ·exact ⟨_, rfl, rfl⟩
end
end
section
open Go.Lib (decDigits)
def JU (l : List Line) (x : Line) : Bool := match l.getLast? with
 | some y => decide (y.Num < x.Num) && decide (y.Minute <= x.Minute)
 | none => true
noncomputable def G4 (o : Ac) (d : Nat) (l : Log) (e : Bool) (t : UQ) : (Nat × Log × Bool) ⊕ Int :=
 if e = true then .inr 20
 else if d < 5 then (match hdr d l t with
  | some l' => .inl (d + 1, l', false)
  | none => .inr 20)
 else if t = S6 then .inl (d, l, true)
 else match IF o t with
  | none => .inr 20
  | some x => if JU l.Lines x = false then .inr 20 else if l.Lines.length = 400 then .inr 2 else .inl (d, { l with Lines := l.Lines ++ [x] }, false)
noncomputable def FM (o : Ac) : List (UQ × Bool) -> Nat -> Nat -> Log -> Bool -> Log × Int × Int
 | [], n, _, l, e => if e = true then (l, 0, 0) else (EW, 20, (n : Int) + 1)
 | (t, c) :: r, n, d, l, e => if c = false then (EW, 20, (n : Int) + 1) else match G4 o d l e t with
  | .inl q => FM o r (n + 1) q.1 q.2.1 q.2.2
  | .inr k => (EW, k, (n : Int) + 1)
noncomputable def Cs (o : Ac) (s : UQ) : Log × Int × Int := if s.length > 65536 then (EW, 2, 0) else FM o (lnE s) 0 0 EW false
theorem Qw (k : Nat) (v l : Log) : (hdS k v l).Lines = l.Lines := by
 unfold hdS; split <;> rfl
theorem Qv {k : Nat} {l l' : Log} {t : UQ} (h : hdr k l t = some l') : l'.Lines = l.Lines := by
 rcases FY k t with ⟨v, _, _, h3⟩ | ⟨_, h3⟩
 ·rw [h3] at h; cases h; exact Qw k v l
 ·rw [h3] at h; cases h
theorem OV {o : Ac} {d : Nat} {l : Log} {e : Bool} {t : UQ} {q : Nat × Log × Bool} (hd : d <= 5) (hl : l.Lines.length <= 400) (h : G4 o d l e t = .inl q) : q.1 <= 5 /\ q.2.1.Lines.length <= 400 := by
 unfold G4 at h
 split at h
 ·cases h
 ·split at h
  ·rename_i h5
   split at h
   ·rename_i l' hh
    cases h
    refine ⟨by omega, ?_⟩
    rw [Qv hh]; exact hl
   ·cases h
  ·split at h
   ·cases h; exact ⟨hd, hl⟩
   ·split at h
    ·cases h
    ·split at h
     ·cases h
     ·split at h
      ·cases h
      ·cases h
       refine ⟨hd, ?_⟩
       simp; omega
section
variable {N : Nat}
theorem Qq (ls : List Line) (x : Line) (c : Int) (hl : ls.length <= 400) :
  (bif decide ((ls.length : Int) > 0) then ((idx ls (W64 ((ls.length : Int) - 1))).bind fun x134 => (bif (decide (x.Num <= x134.Num)) then some true else ((idx ls (W64 ((ls.length : Int) - 1))).bind fun x149 => (bif (decide (x.Minute < x149.Minute)) then some true else some (c != 0))))) else some (c != 0)) = some (!JU ls x || (c != 0)) := by
 by_cases h : ls.length = 0
 ·have : ls = [] := List.length_eq_zero_iff.1 h
  subst this
  rfl
 ·rw [decide_eq_true (show (ls.length : Int) > 0 by omega), cond_true, TO _ (by omega) (by omega), Fo (by omega)]
  unfold JU
  rw [List.getLast?_eq_getElem?, List.getElem?_eq_getElem (by omega)]
  simp only [Option.bind_some]
  generalize ls[ls.length - 1] = y
  by_cases h1 : x.Num <= y.Num
  ·rw [decide_eq_true h1, decide_eq_false (show ¬ y.Num < x.Num by omega)]; rfl
  ·rw [decide_eq_false h1, decide_eq_true (show y.Num < x.Num by omega), cond_false]
   by_cases h2 : x.Minute < y.Minute
   ·rw [decide_eq_true h2, decide_eq_false (show ¬ y.Minute <= x.Minute by omega)]; rfl
   ·rw [decide_eq_false h2, decide_eq_true (show y.Minute <= x.Minute by omega)]
    simp
def NX (N : Nat) (o : Ac) (d : Nat) (l : Log) (e : Bool) (t : UQ) : Prop := match G4 o d l e t with
 | .inl q => AM N ⟨o, l, (d : Int), e⟩ t = some (⟨o, q.2.1, (q.1 : Int), q.2.2⟩, true, false)
 | .inr k => ∃ q b, AM N ⟨o, l, (d : Int), e⟩ t = some (q, false, b) /\ ((b = false /\ k = 20) \/ (b = true /\ k = 2))
theorem Ti (o : Ac) (d : Nat) (l : Log) (e : Bool) (t : UQ) (hd : d <= 5) (hl : l.Lines.length <= 400) (ht : t.length <= 1000000000) (hN : 4294967300 < N) : NX N o d l e t := by
 unfold NX G4
 cases e with
 | true =>
  rw [if_pos rfl]
  exact ⟨_, _, rfl, .inl ⟨rfl, rfl⟩⟩
 | false =>
  rw [if_neg (by simp)]
  by_cases h5 : d < 5
  ·rw [if_pos h5]
   have hcs : d = 0 \/ d = 1 \/ d = 2 \/ d = 3 \/ d = 4 := by omega
   rcases hcs with rfl | rfl | rfl | rfl | rfl
   ·obtain ⟨r, hr, hh⟩ := Sy (N := N) ⟨o, l, ((0 : Nat) : Int), false⟩ t
    unfold HR at hh
    unfold AM
    rw [cond_false, show decide (((0 : Nat) : Int) < 5) = true from rfl, cond_true, show decide (((0 : Nat) : Int) = 0) = true from rfl, cond_true, hr, Option.bind_some]
    cases hx : hdr 0 l t with
    | none =>
     rw [show hdr 0 ({ o_ := o, l_ := l, done_ := ((0 : Nat) : Int), ended_ := false } : Ah).l_ t = none from hx] at hh
     have hh : r.2 = false := hh
     rw [hh]
     exact ⟨_, _, rfl, .inl ⟨rfl, rfl⟩⟩
    | some l' =>
     rw [show hdr 0 ({ o_ := o, l_ := l, done_ := ((0 : Nat) : Int), ended_ := false } : Ah).l_ t = some l' from hx] at hh
     have hh : r = (⟨o, l', ((0 : Nat) : Int), false⟩, true) := hh
     subst hh
     rfl
   ·obtain ⟨r, hr, hh⟩ := Tg (N := N) ⟨o, l, ((1 : Nat) : Int), false⟩ t ht
    unfold HR at hh
    unfold AM
    rw [cond_false, show decide (((1 : Nat) : Int) < 5) = true from rfl, cond_true, show decide (((1 : Nat) : Int) = 0) = false from rfl, cond_false, show decide (((1 : Nat) : Int) = 1) = true from rfl, cond_true, hr, Option.bind_some]
    cases hx : hdr 1 l t with
    | none =>
     rw [show hdr 1 ({ o_ := o, l_ := l, done_ := ((1 : Nat) : Int), ended_ := false } : Ah).l_ t = none from hx] at hh
     have hh : r.2 = false := hh
     rw [hh]
     exact ⟨_, _, rfl, .inl ⟨rfl, rfl⟩⟩
    | some l' =>
     rw [show hdr 1 ({ o_ := o, l_ := l, done_ := ((1 : Nat) : Int), ended_ := false } : Ah).l_ t = some l' from hx] at hh
     have hh : r = (⟨o, l', ((1 : Nat) : Int), false⟩, true) := hh
     subst hh
     rfl
   ·obtain ⟨r, hr, hh⟩ := Te (N := N) ⟨o, l, ((2 : Nat) : Int), false⟩ t ht
    unfold HR at hh
    unfold AM
    rw [cond_false, show decide (((2 : Nat) : Int) < 5) = true from rfl, cond_true, show decide (((2 : Nat) : Int) = 0) = false from rfl, cond_false, show decide (((2 : Nat) : Int) = 1) = false from rfl, cond_false, show decide (((2 : Nat) : Int) = 2) = true from rfl, cond_true, hr, Option.bind_some]
    cases hx : hdr 2 l t with
    | none =>
     rw [show hdr 2 ({ o_ := o, l_ := l, done_ := ((2 : Nat) : Int), ended_ := false } : Ah).l_ t = none from hx] at hh
     have hh : r.2 = false := hh
     rw [hh]
     exact ⟨_, _, rfl, .inl ⟨rfl, rfl⟩⟩
    | some l' =>
     rw [show hdr 2 ({ o_ := o, l_ := l, done_ := ((2 : Nat) : Int), ended_ := false } : Ah).l_ t = some l' from hx] at hh
     have hh : r = (⟨o, l', ((2 : Nat) : Int), false⟩, true) := hh
     subst hh
     rfl
   ·obtain ⟨r, hr, hh⟩ := Tf (N := N) ⟨o, l, ((3 : Nat) : Int), false⟩ t ht
    unfold HR at hh
    unfold AM
    rw [cond_false, show decide (((3 : Nat) : Int) < 5) = true from rfl, cond_true, show decide (((3 : Nat) : Int) = 0) = false from rfl, cond_false, show decide (((3 : Nat) : Int) = 1) = false from rfl, cond_false, show decide (((3 : Nat) : Int) = 2) = false from rfl, cond_false, show decide (((3 : Nat) : Int) = 3) = true from rfl, cond_true, hr, Option.bind_some]
    cases hx : hdr 3 l t with
    | none =>
     rw [show hdr 3 ({ o_ := o, l_ := l, done_ := ((3 : Nat) : Int), ended_ := false } : Ah).l_ t = none from hx] at hh
     have hh : r.2 = false := hh
     rw [hh]
     exact ⟨_, _, rfl, .inl ⟨rfl, rfl⟩⟩
    | some l' =>
     rw [show hdr 3 ({ o_ := o, l_ := l, done_ := ((3 : Nat) : Int), ended_ := false } : Ah).l_ t = some l' from hx] at hh
     have hh : r = (⟨o, l', ((3 : Nat) : Int), false⟩, true) := hh
     subst hh
     rfl
   ·obtain ⟨r, hr, hh⟩ := Ra (N := N) ⟨o, l, ((4 : Nat) : Int), false⟩ t ht hN
    unfold HR at hh
    unfold AM
    rw [cond_false, show decide (((4 : Nat) : Int) < 5) = true from rfl, cond_true, show decide (((4 : Nat) : Int) = 0) = false from rfl, cond_false, show decide (((4 : Nat) : Int) = 1) = false from rfl, cond_false, show decide (((4 : Nat) : Int) = 2) = false from rfl, cond_false, show decide (((4 : Nat) : Int) = 3) = false from rfl, cond_false, show decide (((4 : Nat) : Int) = 4) = true from rfl, cond_true, hr, Option.bind_some]
    cases hx : hdr 4 l t with
    | none =>
     rw [show hdr 4 ({ o_ := o, l_ := l, done_ := ((4 : Nat) : Int), ended_ := false } : Ah).l_ t = none from hx] at hh
     have hh : r.2 = false := hh
     rw [hh]
     exact ⟨_, _, rfl, .inl ⟨rfl, rfl⟩⟩
    | some l' =>
     rw [show hdr 4 ({ o_ := o, l_ := l, done_ := ((4 : Nat) : Int), ended_ := false } : Ah).l_ t = some l' from hx] at hh
     have hh : r = (⟨o, l', ((4 : Nat) : Int), false⟩, true) := hh
     subst hh
     rfl
  ·rw [if_neg h5]
   unfold AM
   rw [cond_false, decide_eq_false (show ¬ ((d : Nat) : Int) < 5 by omega), cond_false, show (t == ([69, 78, 68] : UQ)) = decide (t = S6) from NW _ _]
   by_cases hw : t = S6
   ·rw [if_pos hw, decide_eq_true hw]; rfl
   ·rw [if_neg hw, decide_eq_false hw, cond_false, show ({ Report := o.Report, Serial := o.Serial, Zone := o.Zone } : Ac) = o from rfl, Ot o t ht hN, Option.bind_some]
    rw [Qq l.Lines (paL o t).1 (paL o t).2 hl, Option.bind_some]
    unfold paL
    cases hp : IF o t with
    | none =>
     refine ⟨⟨o, l, (d : Int), false⟩, false, ?_, .inl ⟨rfl, rfl⟩⟩
     show (bif (!JU l.Lines PY || ((20 : Int) != 0)) then _ else _) = _
     rw [show (!JU l.Lines PY || ((20 : Int) != 0)) = true by simp]
     rfl
    | some x =>
     simp only [bne_self_eq_false, Bool.or_false]
     cases hlo : JU l.Lines x with
     | false =>
      rw [if_pos rfl]
      exact ⟨_, _, rfl, .inl ⟨rfl, rfl⟩⟩
     | true =>
      rw [if_neg (by simp)]
      by_cases h4 : l.Lines.length = 400
      ·rw [if_pos h4]
       refine ⟨⟨o, l, (d : Int), false⟩, true, ?_, .inr ⟨rfl, rfl⟩⟩
       rw [Bool.not_true, cond_false, show ((l.Lines.length : Int) == 400) = true by rw [beq_iff_eq]; omega]
       rfl
      ·rw [if_neg h4]
       simp only
       rw [Bool.not_true, cond_false, show ((l.Lines.length : Int) == 400) = false by rw [beq_eq_false_iff_ne]; omega, cond_false, OP (by omega)]
       rfl
theorem SF : lnE [] = [] := rfl
theorem PX {a b : UQ} (h : (10 : UInt8) ∉ a) : lnE (a ++ 10 :: b) = (a, true) :: lnE b := by
 unfold lnE
 rw [Gn h]
 have hn := Ha 10 b
 generalize pcs 10 b = P at *
 match P, hn with
 | p :: r, _ =>
  rw [List.getLast?_cons_cons, List.dropLast_cons_cons]
  split <;> simp_all
theorem Ri {s : UQ} (h : (10 : UInt8) ∉ s) (hs : s ≠ []) : lnE s = [(s, false)] := by
 unfold lnE
 rw [ET h]
 match s, hs with
 | b :: s, _ => rfl
abbrev Tup := Int × Int × Bool × Bool × Bool × UQ × Int × Int × Int × List Int × List Line × Int × Bool × Int
def tup (o : Ac) (l : Log) (d : Int) (e : Bool) (n : Int) : Tup := (0, 0, o.Report, o.Serial, o.Zone, l.Call, l.Category, l.Power, l.Claimed, l.Jumps, l.Lines, d, e, n)
theorem Q9 (o : Ac) (s : UQ) (d : Nat) (l : Log) (e : Bool) (n : Nat) (t : UQ) (c : Bool) (hd : d <= 5) (hl : l.Lines.length <= 400) (ht : t.length <= 1000000000) (hn : n <= 1000000000) (hN : 4294967300 < N) :
  (if c = false then ∃ q : Tup, Bb N o s (tup o l d e n) (t, c) = some (q, false) /\ q.1 = 20 /\ q.2.1 = (n : Int) + 1 else match G4 o d l e t with
   | .inl q => Bb N o s (tup o l d e n) (t, c) = some (tup o q.2.1 q.1 q.2.2 ((n + 1 : Nat) : Int), true)
   | .inr k => ∃ q : Tup, Bb N o s (tup o l d e n) (t, c) = some (q, false) /\ q.1 = k /\ q.2.1 = (n : Int) + 1) := by
 have hW : W64 ((n : Int) + 1) = (n : Int) + 1 := by rw [I2 n (by omega)]; rfl
 cases c with
 | false =>
  rw [if_pos rfl]
  exact ⟨_, rfl, rfl, hW⟩
 | true =>
  rw [if_neg (by simp)]
  have hx := Ti (N := N) o d l e t hd hl ht hN
  unfold NX at hx
  have hstep : ∀ r, AM N ⟨o, l, (d : Int), e⟩ t = some r -> Bb N o s (tup o l d e n) (t, true) = (bif r.2.2 then some ((2, W64 ((n : Int) + 1), r.1.o_.Report, r.1.o_.Serial, r.1.o_.Zone, r.1.l_.Call, r.1.l_.Category, r.1.l_.Power, r.1.l_.Claimed, r.1.l_.Jumps, r.1.l_.Lines, r.1.done_, r.1.ended_, W64 ((n : Int) + 1)), false) else (bif !r.2.1 then some ((20, W64 ((n : Int) + 1), r.1.o_.Report, r.1.o_.Serial, r.1.o_.Zone, r.1.l_.Call, r.1.l_.Category, r.1.l_.Power, r.1.l_.Claimed, r.1.l_.Jumps, r.1.l_.Lines, r.1.done_, r.1.ended_, W64 ((n : Int) + 1)), false) else some ((0, 0, r.1.o_.Report, r.1.o_.Serial, r.1.o_.Zone, r.1.l_.Call, r.1.l_.Category, r.1.l_.Power, r.1.l_.Claimed, r.1.l_.Jumps, r.1.l_.Lines, r.1.done_, r.1.ended_, W64 ((n : Int) + 1)), true))) := by
   intro r hr
   unfold Bb
   show ((bif true then ((AM N ⟨o, l, (d : Int), e⟩ t).bind _) else _).bind _) = _
   rw [hr]
   rfl
  cases hs : G4 o d l e t with
  | inl q =>
   simp only [hs] at hx ⊢
   rw [hstep _ hx, hW]
   rfl
  | inr k =>
   simp only [hs] at hx ⊢
   obtain ⟨q, b, h1, h2⟩ := hx
   rw [hstep _ h1, hW]
   rcases h2 with ⟨rfl, rfl⟩ | ⟨rfl, rfl⟩ <;> exact ⟨_, rfl, rfl, rfl⟩
end
end
section
open Go.Lib (decDigits)
def fin (r : Tup × Bool) : Log × Int × Int := (bif r.2 then (bif (!r.1.2.2.2.2.2.2.2.2.2.2.2.2.1) then (EW, 20, (W64 (r.1.2.2.2.2.2.2.2.2.2.2.2.2.2 + 1))) else (({ Call := r.1.2.2.2.2.2.1, Category := r.1.2.2.2.2.2.2.1, Power := r.1.2.2.2.2.2.2.2.1, Claimed := r.1.2.2.2.2.2.2.2.2.1, Jumps := r.1.2.2.2.2.2.2.2.2.2.1, Lines := r.1.2.2.2.2.2.2.2.2.2.2.1 } : Log), 0, 0)) else (EW, r.1.1, r.1.2.1))
section
variable {N : Nat}
theorem Od (o : Ac) (s z : UQ) (s0 : Tup × Bool) (hN : 4294967300 < N) : ∀ (M : Nat) (text : UQ) (d : Nat) (l : Log) (e : Bool) (n : Nat), text.length < M -> d <= 5 -> l.Lines.length <= 400 -> n + text.length <= 1000000000 ->
  ∃ r, ((A0 (BW N (NV (Bb N o s)) z s0) M (text, (tup o l d e n, true))).bind fun o => o.k (fun r => some r) (fun s13 => some s13.2)) = some r /\ fin r = FM o (lnE text) n d l e
 | 0, _, _, _, _, _, h, _, _, _ => by omega
 | M + 1, text, d, l, e, n, hM, hd, hl, hn => by
  rw [A0]
  by_cases h0 : text = []
  ·subst h0
   rw [show BW N (NV (Bb N o s)) z s0 (([] : UQ), (tup o l d e n, true)) = some (.done ([], (tup o l d e n, true))) from rfl]
   refine ⟨(tup o l d e n, true), rfl, ?_⟩
   rw [SF]
   unfold FM
   cases e with
   | true => rfl
   | false =>
    rw [if_neg (by simp)]
    show (EW, (20 : Int), W64 ((n : Int) + 1)) = _
    rw [I2 n (by omega)]; rfl
  ·have hb : ∀ a b f, strings_Cut N text [10] = some (a, b, f) -> BW N (NV (Bb N o s)) z s0 (text, (tup o l d e n, true)) = (((Bb N o s (tup o l d e n) (a, f)).map fun t => (t.2, t)).bind fun q37 => (bif (!q37.1) then some (.ret q37.2) else some (.next (b, q37.2)))) := by
    intro a b f h
    unfold BW
    simp only
    rw [show (text != ([] : UQ)) = true by simpa using h0, cond_true, h]
    rfl
   by_cases h10 : (10 : UInt8) ∈ text
   ·obtain ⟨a, b, rfl, ha⟩ := List.eq_append_cons_of_mem h10
    have hlen : (a ++ 10 :: b).length = a.length + b.length + 1 := by simp; omega
    rw [hb a b true (by unfold strings_Cut; rw [if_pos (by omega), OE ha]), PX ha]
    have hs := Q9 (N := N) o s d l e n a true hd hl (by omega) (by omega) hN
    rw [if_neg (by simp)] at hs
    unfold FM
    rw [if_neg (by simp)]
    cases hst : G4 o d l e a with
    | inl q =>
     simp only [hst] at hs ⊢
     rw [hs]
     have hk := OV hd hl hst
     exact Od o s z s0 hN M b q.1 q.2.1 q.2.2 (n + 1) (by omega) hk.1 hk.2 (by omega)
    | inr k =>
     simp only [hst] at hs ⊢
     obtain ⟨q, h1, h2, h3⟩ := hs
     rw [h1]
     refine ⟨(q, false), rfl, ?_⟩
     show (EW, q.1, q.2.1) = _
     rw [h2, h3]
   ·rw [hb text [] false (by unfold strings_Cut; rw [if_pos (by omega), OG h10]), Ri h10 h0]
    have hs := Q9 (N := N) o s d l e n text false hd hl (by omega) (by omega) hN
    rw [if_pos rfl] at hs
    obtain ⟨q, h1, h2, h3⟩ := hs
    unfold FM
    rw [if_pos rfl, h1]
    refine ⟨(q, false), rfl, ?_⟩
    show (EW, q.1, q.2.1) = _
    rw [h2, h3]
theorem PW (o : Ac) (s : UQ) (hs : s.length <= 1000000000) (hN : 4294967300 < N) : CX N o s = some (Cs o s) := by
 unfold CX Cs
 by_cases h : s.length > 65536
 ·rw [decide_eq_true (show (s.length : Int) > 65536 by omega), if_pos h]; rfl
 ·rw [decide_eq_false (show ¬ (s.length : Int) > 65536 by omega), if_neg h, cond_false]
  obtain ⟨r, hr, hf⟩ := Od (N := N) o s s (tup o EW ((0 : Nat) : Int) false ((0 : Nat) : Int), true) hN N s 0 EW false 0 (by omega) (by omega) (by simp [EW]) (by omega)
  have : C9 N (NV (Bb N o s)) s ((0, 0, o.Report, o.Serial, o.Zone, ([] : UQ), 0, 0, 0, ([] : List Int), ([] : List Line), 0, false, 0), true) = some r := hr
  rw [this, Option.bind_some, <- hf]
  unfold fin
  cases r.2 with
  | false => rfl
  | true =>
   cases r.1.2.2.2.2.2.2.2.2.2.2.2.2.1 <;> rfl
end
end
def CT (N : Nat) (x0 : UQ) : (List UQ × Int × Int) -> Option (BD ((List UQ) × Bool) (List UQ × Int × Int)) := fun s26 =>
 (bif (decide (s26.2.2 < (x0.length : Int))) then ((OZ x0 s26.2.2).bind fun c52 => ((bif (c52 == 10) then ((JK x0 s26.2.1 s26.2.2).bind fun r69 => ((Dr s26.1 [r69]).bind fun r77 => some (r77, (W64 (s26.2.2 + 1))))) else some (s26.1, s26.2.1)).bind fun j58 => some (.next (j58.1, j58.2, (W64 (s26.2.2 + 1)))))) else some (.done (s26.1, s26.2.1, s26.2.2)))
def Ff (N : Nat) (x0 : UQ) : Option ((List UQ) × Bool) :=
 ((A0 (CT N x0) N (([] : List UQ), 0, 0)).bind fun o => o.k (fun r => some r) (fun s35 => (bif (decide (s35.2.1 < (x0.length : Int))) then ((JK x0 s35.2.1 (x0.length : Int)).bind fun r92 => ((Dr s35.1 [r92]).bind fun r100 => some (r100, false))) else some (s35.1, true))))
theorem L8 : Ag Tryz.prog 41 := fun _ _ => by kernel_rfl
theorem MH (N : Nat) (w0 : World) (F0 : Mem) (hF : US w0 F0) (x0 : UQ) (r : ((List UQ) × Bool)) (h : Ff N x0 = some r) :
  Calls Tryz.prog 41 ([(sv x0)] : List Value).toArray w0 (AB w0 F0 fun F' v => ∃ (aq0_0 : UR) (nq0_0 : Nat), v = (.tuple #[(.slice aq0_0 r.1.length nq0_0), (.bool r.2)]) /\ LC r.1.length nq0_0 /\ SlA AF F' aq0_0 r.1) := by
 have hs0 := Uy hF
 refine Go 37 Tryz.func41 <| Sq (Rg [0, 1] ?_)
 refine Vs 2 <| Nss (Rg [0] ?_)
 refine Vs 1 <| Nss (Rg [0] ?_)
 refine Vs 1 <| Nss <| Sq (Rg [0] ?_)
 refine Vs 1 <| Nt ?_
 have hs21 := hs0.dummy (oc #[] 0)
 obtain ⟨o23, ho24, h25⟩ := bind_some h
 refine UD (fun f w => ∃ (s35 : (List UQ × Int × Int)) (F2 : Mem) (as35_0 : UR) (ns35_0 : Nat) (es35_0 : Option Nat × Obj), o23 = .done s35 /\ HS w0 F0 w F2 [es35_0] /\ Uw F0 F2 /\ FI f [] [(0, (sv x0)), (4, (.slice as35_0 s35.1.length ns35_0)), (5, (vi s35.2.1))] /\ Ap AF 9 F2 as35_0 ns35_0 s35.1 es35_0) ?_ ?_
 ·refine Bk ?_
  refine Uv (by kernel_rfl) (fun m f w => ∃ (s26 : (List UQ × Int × Int)) (F1 : Mem) (as26_0 : UR) (ns26_0 : Nat) (es26_0 : Option Nat × Obj), A0 (CT N x0) m s26 = some o23 /\ HS w0 F0 w F1 [es26_0] /\ Uw F0 F1 /\ FI f [] [(0, (sv x0)), (4, (.slice as26_0 s26.1.length ns26_0)), (5, (vi s26.2.1)), (6, (vi s26.2.2))] /\ Ap AF 9 F1 as26_0 ns26_0 s26.1 es26_0) N ⟨(([] : List UQ), 0, 0), F0, none, 0, (none, .cells #[] 0 (0, 0)), ho24, hs21, (Ux _), fI, (UL AF 9 F0 _)⟩ ?_
  rintro m43 f w27 ⟨s26, F1, as26_0, ns26_0, es26_0, hit44, hs28, le29, ⟨_, rfl⟩, hrs26_0⟩
  obtain ⟨m45, fl46, rfl, hb47, hnx48⟩ := AU hit44
  refine Sq <| Sq (Rg (rG 4) ?_)
  refine Vs 4 <| Nt <| Cd hb47 (fun hb49 h50 => ?_) (fun hb49 h51 => ?_)
  ·refine Sc ?_
   refine Ab <| Sq <| Bk <| Sq (Rg (rG 4) ?_)
   refine Vs 2 ?_
   obtain ⟨c52, hr53, h54⟩ := bind_some h50
   refine V 15 5 (LI (t := 9) (x := (.tmp 13)) (y := (.tmp 14)) (a := x0) (k := .i64) (i := s26.2.2) (v := c52) rfl rfl (by kernel_rfl) hr53) <| Vs 1 <| Nt ?_
   obtain ⟨j58, hj64, h65⟩ := bind_some h54
   refine UD (fun f w => ∃ (F3 : Mem) (aj58_0 : UR) (nj58_0 : Nat) (ej58_0 : Option Nat × Obj), HS w0 F0 w F3 [ej58_0] /\ Uw F1 F3 /\ FI f [] [(0, (sv x0)), (4, (.slice aj58_0 j58.1.length nj58_0)), (5, (vi j58.2)), (6, (vi s26.2.2))] /\ Ap AF 9 F3 aj58_0 nj58_0 j58.1 ej58_0) ?_ ?_
   ·refine Cd hj64 (fun hb66 h67 => ?_) (fun hb66 h68 => ?_)
    ·refine Sq (Rg (rG 8) ?_)
     refine Vs 4 ?_
     obtain ⟨r69, hr70, h71⟩ := bind_some h67
     refine V 21 9 (FH (t := 9) (x := (.tmp 18)) (lo := (some (.tmp 19))) (hi := (some (.tmp 20))) (a := x0) (il := s26.2.1) (ih := s26.2.2) (v := r69) rfl (by kernel_rfl) rfl rfl hr70) <| Bs 9 [(sv r69)] hs28 (fun b72 w73 hs74 => ?_)
     have hr76 : Ap AF 9 F1 (some ⟨b72, 0, none⟩) 1 [r69] (some b72, .cells ([(sv r69)] : List Value).toArray 9 (0, 0)) := UM ⟨rfl, rfl⟩ (by simp)
     obtain ⟨r77, hap78, h79⟩ := bind_some h71
     refine Ap1 So hs74 hrs26_0 (hs74.rd0 hr76) hap78 (fun a80 n81 e82 w83 hs84 hr85 => ?_)
     refine Vs 1 <| Nt <| Rg [0, 1, 2] <| Vs 3 <| Us ?_
     obtain rfl := Aa h79
     exact .inl ⟨rfl, F1, a80, n81, e82, hs84.dr0, (Ux _), fI, hr85⟩
    ·refine Sc ?_
     obtain rfl := Aa h68
     exact .inl ⟨rfl, F1, as26_0, ns26_0, es26_0, hs28, (Ux _), fI, hrs26_0⟩
   ·rintro f w55 ⟨F3, aj58_0, nj58_0, ej58_0, hs56, le57, ⟨_, rfl⟩, hrj58_0⟩
    refine Av <| Ab <| Rg [0, 1, 2] <| Vs 3 <| Us ?_
    have hn86 := AV h65 hnx48
    exact ⟨m45, Nat.lt_succ_self _, (j58.1, j58.2, (W64 (s26.2.2 + 1))), F3, aj58_0, nj58_0, ej58_0, hn86, hs56, (le29.t le57), fI, hrj58_0⟩
  ·refine Ex ?_
   refine Au <| Au <| AA rfl ?_
   have ho87 := AW h51 hnx48
   exact .inl ⟨rfl, (s26.1, s26.2.1, s26.2.2), F1, as26_0, ns26_0, es26_0, ho87, hs28, le29, fI, hrs26_0⟩
 ·rintro f w36 ⟨s35, F2, as35_0, ns35_0, es35_0, rfl, hs37, le38, ⟨_, rfl⟩, hrs35_0⟩
  have h88 := BL h25
  refine Ab <| Sq <| Sq (Rg (rG 4) ?_)
  refine Vs 4 <| Nt <| Cd h88 (fun hb89 h90 => ?_) (fun hb89 h91 => ?_)
  ·refine Sq (Rg (rG 8) ?_)
   refine Vs 3 ?_
   obtain ⟨r92, hr93, h94⟩ := bind_some h90
   refine V 33 9 (FH (t := 9) (x := (.tmp 31)) (lo := (some (.tmp 32))) (hi := none) (a := x0) (il := s35.2.1) (ih := (x0.length : Int)) (v := r92) rfl (by kernel_rfl) rfl rfl hr93) <| Bs 9 [(sv r92)] hs37 (fun b95 w96 hs97 => ?_)
   have hr99 : Ap AF 9 F2 (some ⟨b95, 0, none⟩) 1 [r92] (some b95, .cells ([(sv r92)] : List Value).toArray 9 (0, 0)) := UM ⟨rfl, rfl⟩ (by simp)
   obtain ⟨r100, hap101, h102⟩ := bind_some h94
   refine Ap1 So hs97 hrs35_0 (hs97.rd0 hr99) hap101 (fun a103 n104 e105 w106 hs107 hr108 => ?_)
   refine Vs 2 <| Nt <| Rt <| Aj ?_
   have hb112 := UK hr108
   obtain ⟨F4, hs109, le110, hs111⟩ := hs107.fr1 hr108
   obtain rfl := Aa h102
   exact Re [(.slice a103 r100.length n104), (.bool false)] hs109 ⟨a103, n104, rfl, hb112, hs111⟩
  ·refine Sc ?_
   refine Ab <| Sq (Rg [0, 1, 2] ?_)
   refine Vs 3 <| Nt <| Rt ?_
   have hb116 := UK hrs35_0
   obtain ⟨F5, hs113, le114, hs115⟩ := hs37.fr0 hrs35_0
   obtain rfl := Aa h91
   exact Re [(.slice as35_0 s35.1.length ns35_0), (.bool true)] hs113 ⟨as35_0, ns35_0, rfl, hb116, hs115⟩
def Db (N : Nat) (x0 : Ac) (x1 : UQ) (x2 : UQ) : Option Bool :=
 ((Hj N ).bind fun r24 => (bif ((decide ((x1.length : Int) > 4000)) || (decide ((x2.length : Int) > 1000))) then some r24 else ((CX N ({ Report := x0.Report, Serial := x0.Serial, Zone := x0.Zone } : Ac) x1).bind fun r45 => ((Ff N x1).bind fun r58 => (bif ((r45.2.1 != 20) || ((decide (r45.2.2 > (r58.1.length : Int))) || ((r45.2.2 == (r58.1.length : Int)) && (!r58.2)))) then some r24 else ((CQ x1 x2).bind fun r82 => ((CX N ({ Report := x0.Report, Serial := x0.Serial, Zone := x0.Zone } : Ac) r82).bind fun r85 => some (r24 && ((r85.2.1 == 20) && (r85.2.2 == r45.2.2))))))))))
theorem IW (N : Nat) (w0 : World) (F0 : Mem) (hF : US w0 F0) (hG : Br F0) (x0 : Ac) (x1 : UQ) (x2 : UQ) (r : Bool) (h : Db N x0 x1 x2 = some r) :
  Calls Tryz.prog 8 ([(.agg (Ak x0)), (sv x1), (sv x2)] : List Value).toArray w0 (AB w0 F0 fun F' v => v = (.bool r)) := by
 have hs0 := Uy hF
 refine Go 76 Tryz.func8 <| Sq (Rg [0, 1] ?_)
 refine Bx' 23 (Ak x0) hs0 (fun b21 w22 hs23 => ?_)
 refine Vs 1 <| Nss (Rg [0, 1] ?_)
 obtain ⟨r24, hr25, h26⟩ := bind_some h
 refine Cl' Mc hs23 (ML N w22 F0 hs23.pers hG  _ hr25) ?_
 rintro _ F1 w28 hs29 le30 rfl
 refine Vs 1 <| Nss <| Sq (Rg (rG 8) ?_)
 refine UC (fun f w => ∃ (F2 : Mem), HS w0 F0 w F2 [(sb b21 (Ak x0) 23)] /\ Uw F1 F2 /\ FI f [] [(1, (sv x1)), (2, (sv x2)), (3, (pt b21 0)), (7, (.bool r24)), (24, (.bool ((decide ((x1.length : Int) > 4000)) || (decide ((x2.length : Int) > 1000)))))]) ?_ ?_
 ·refine Vs 4 ?_
  refine UB (decide ((x1.length : Int) > 4000)) (fun hb41 => ?_) (fun hb41 => ?_)
  ·refine Ss hb41 3 ?_
   refine Pk1 hb41 ?_
   exact Us ⟨rfl, F1, hs29, (Ux _), (fJ ⟨rfl, rfl, rfl, rfl, (congrArg Value.bool (FN hb41 rfl)), trivial⟩)⟩
  ·refine Vgs hb41 3 ?_
   refine Pk0 hb41 ?_
   exact Us ⟨rfl, F1, hs29, (Ux _), (fJ ⟨rfl, rfl, rfl, rfl, (congrArg Value.bool (Ct hb41 rfl)), trivial⟩)⟩
 ·rintro f w32 ⟨F2, hs33, le34, ⟨_, rfl⟩⟩
  refine Ab <| Cd h26 (fun hb42 h43 => ?_) (fun hb42 h44 => ?_)
  ·refine Sq (Rg [0, 1] ?_)
   refine Vs 2 <| Nt <| Rt <| Aj ?_
   obtain rfl := Aa h43
   exact Re [(.bool r24)] hs33 rfl
  ·refine Sc ?_
   refine Ab <| Sq (Rg (rG 11) ?_)
   refine Ld hs33.at0 <| Vs 1 ?_
   obtain ⟨r45, hr46, h47⟩ := bind_some h44
   refine Cl' CF hs33 (Df N w32 F2 hs33.pers (hG.mono (le30.t le34)) (({ Report := x0.Report, Serial := x0.Serial, Zone := x0.Zone } : Ac)) x1 _ hr46) ?_
   rintro _ F3 w49 hs50 le51 ⟨ar45_0_4, nr45_0_4, ar45_0_5, nr45_0_5, rfl, hbr45_0_4, hsr45_0_4, hbr45_0_5, hsr45_0_5⟩
   refine Vs 4 <| Al' 27 #[(sv (([] : UQ))), (vi 0), (vi 0), (vi 0), (.slice none ([] : List Int).length 0), (.slice none ([] : List Line).length 0)] hs50 (fun b53 w54 hs55 => ?_)
   refine St0 (AL r45.1 ar45_0_4 nr45_0_4 ar45_0_5 nr45_0_5) hs55 (fun w56 hs57 => ?_)
   refine Vs 2 <| Nss (Rg (rG 7) ?_)
   refine Vs 1 ?_
   obtain ⟨r58, hr59, h60⟩ := bind_some h47
   refine Cl' L8 hs57 (MH N w56 F3 hs57.pers x1 _ hr59) ?_
   rintro _ F4 w62 hs63 le64 ⟨ar58_0_0, nr58_0_0, rfl, hbr58_0_0, hsr58_0_0⟩
   refine Vs 5 <| Nss <| Sq (Rg (rG 18) ?_)
   refine UC (fun f w => ∃ (F5 : Mem), HS w0 F0 w F5 [(sb b21 (Ak x0) 23)] /\ Uw F4 F5 /\ FI f [] [(1, (sv x1)), (2, (sv x2)), (3, (pt b21 0)), (7, (.bool r24)), (10, (vi r45.2.2)), (55, (.bool ((r45.2.1 != 20) || ((decide (r45.2.2 > (r58.1.length : Int))) || ((r45.2.2 == (r58.1.length : Int)) && (!r58.2))))))]) ?_ ?_
   ·refine Vs 3 ?_
    refine UB (r45.2.1 != 20) (fun hb76 => ?_) (fun hb76 => ?_)
    ·refine Ss hb76 4 ?_
     refine Pk1 hb76 <| Vs 1 <| Ss (rfl : true = true) 5 <| Su' 2 <| Ss (rfl : true = true) 1 <| Pk1 (rfl : true = true) ?_
     exact Us ⟨rfl, F4, hs63.dr0, (Ux _), (fJ ⟨rfl, rfl, rfl, rfl, rfl, (congrArg Value.bool (FN hb76 rfl)), trivial⟩)⟩
    ·refine Vgs hb76 4 ?_
     refine Pk0 hb76 <| Vs 1 <| UB (decide (r45.2.2 > (r58.1.length : Int))) (fun hb77 => ?_) (fun hb77 => ?_)
     ·refine Ss hb77 5 ?_
      refine Su' 2 <| Ss hb77 1 <| Pk1 hb77 ?_
      exact Us ⟨rfl, F4, hs63.dr0, (Ux _), (fJ ⟨rfl, rfl, rfl, rfl, rfl, (congrArg Value.bool (Ct hb76 (FN hb77 rfl))), trivial⟩)⟩
     ·refine Vgs hb77 5 ?_
      refine UB (r45.2.2 == (r58.1.length : Int)) (fun hb78 => ?_) (fun hb78 => ?_)
      ·refine Vgs hb78 2 ?_
       refine Pg1 hb77 hb78 <| Pk0 hb77 ?_
       exact Us ⟨rfl, F4, hs63.dr0, (Ux _), (fJ ⟨rfl, rfl, rfl, rfl, rfl, (congrArg Value.bool (Ct hb76 (Ct hb77 (JH hb78 rfl)))), trivial⟩)⟩
      ·refine Ss hb78 2 ?_
       refine Pg0 hb77 hb78 <| Pk0 hb77 ?_
       exact Us ⟨rfl, F4, hs63.dr0, (Ux _), (fJ ⟨rfl, rfl, rfl, rfl, rfl, (congrArg Value.bool (Ct hb76 (Ct hb77 (KP hb78 rfl)))), trivial⟩)⟩
   ·rintro f w66 ⟨F5, hs67, le68, ⟨_, rfl⟩⟩
    refine Ab <| Cd h60 (fun hb79 h80 => ?_) (fun hb79 h81 => ?_)
    ·refine Sq (Rg [0, 1] ?_)
     refine Vs 2 <| Nt <| Rt <| Aj ?_
     obtain rfl := Aa h80
     exact Re [(.bool r24)] hs67 rfl
    ·refine Sc ?_
     refine Ab <| Sq (Rg (rG 13) ?_)
     refine Ld hs67.at0 <| Vs 2 ?_
     obtain ⟨r82, hr83, h84⟩ := bind_some h81
     refine V 61 9 (AO (t := 9) (t' := 9) (x := (.tmp 59)) (y := (.tmp 60)) (a := x1) (b := x2) (v := r82) rfl rfl hr83) ?_
     obtain ⟨r85, hr86, h87⟩ := bind_some h84
     refine Cl' CF hs67 (Df N w66 F5 hs67.pers (hG.mono ((((le30.t le34).trans le51).trans le64).trans le68)) (({ Report := x0.Report, Serial := x0.Serial, Zone := x0.Zone } : Ac)) r82 _ hr86) ?_
     rintro _ F6 w89 hs90 le91 ⟨ar85_0_4, nr85_0_4, ar85_0_5, nr85_0_5, rfl, hbr85_0_4, hsr85_0_4, hbr85_0_5, hsr85_0_5⟩
     refine Vs 4 <| Al' 27 #[(sv (([] : UQ))), (vi 0), (vi 0), (vi 0), (.slice none ([] : List Int).length 0), (.slice none ([] : List Line).length 0)] hs90 (fun b93 w94 hs95 => ?_)
     refine St0 (AL r85.1 ar85_0_4 nr85_0_4 ar85_0_5 nr85_0_5) hs95 (fun w96 hs97 => ?_)
     refine Vs 2 <| Nss (Rg (rG 11) ?_)
     refine UC (fun f w => ∃ (F7 : Mem), HS w0 F0 w F7 [] /\ Uw F6 F7 /\ FI f [] [(6, (.bool (r24 && ((r85.2.1 == 20) && (r85.2.2 == r45.2.2)))))]) ?_ ?_
     ·refine Vs 2 ?_
      refine UB r24 (fun hb103 => ?_) (fun hb103 => ?_)
      ·refine Vgs hb103 2 ?_
       refine Pk1 hb103 <| Vs 1 <| UB (r85.2.1 == 20) (fun hb104 => ?_) (fun hb104 => ?_)
       ·refine Vgs hb104 3 ?_
        refine Pk1 hb104 <| Vs 1 ?_
        exact Us ⟨rfl, F6, hs97.dr0.dr0, (Ux _), (fJ ⟨(congrArg Value.bool (JH hb103 (JH hb104 rfl))), trivial⟩)⟩
       ·refine Ss hb104 3 ?_
        refine Pk0 hb104 <| Vs 1 ?_
        exact Us ⟨rfl, F6, hs97.dr0.dr0, (Ux _), (fJ ⟨(congrArg Value.bool (JH hb103 (KP hb104 rfl))), trivial⟩)⟩
      ·refine Ss hb103 2 ?_
       refine Pk0 hb103 <| Vs 1 <| Ss (rfl : false = false) 3 <| Pk0 (rfl : false = false) <| Vs 1 ?_
       exact Us ⟨rfl, F6, hs97.dr0.dr0, (Ux _), (fJ ⟨(congrArg Value.bool (KP hb103 rfl)), trivial⟩)⟩
     ·rintro f w98 ⟨F7, hs99, le100, ⟨_, rfl⟩⟩
      refine Ab <| Rt ?_
      obtain rfl := Aa h87
      exact Re [(.bool (r24 && ((r85.2.1 == 20) && (r85.2.2 == r45.2.2))))] hs99 rfl
section
open Go.Lib (decDigits)
theorem NB : ∀ {M : List UQ} {w : UQ}, (∀ y, y ∈ M -> (10 : UInt8) ∉ y) -> lnE ((M.flatMap fun y => y ++ [10]) ++ w) = M.map (fun x => (x, true)) ++ lnE w
 | [], _, _ => rfl
 | y :: M, w, h => by
  have ih := NB (M := M) (w := w) fun z hz => h z (by simp [hz])
  rw [List.flatMap_cons, show y ++ [10] ++ (M.flatMap fun y => y ++ [10]) ++ w = y ++ 10 :: ((M.flatMap fun y => y ++ [10]) ++ w) by simp, PX (h y (by simp)), ih]
  rfl
theorem PJ (o : Ac) : ∀ (L : List (UQ × Bool)) (n d : Nat) (l : Log) (e : Bool), (FM o L n d l e).2.1 ≠ 0 -> (n : Int) + 1 <= (FM o L n d l e).2.2 /\ (FM o L n d l e).1 = EW
 | [], n, d, l, e => by
  unfold FM
  cases e with
  | true => intro h; exact absurd rfl h
  | false => intro _; exact ⟨Int.le_refl _, rfl⟩
 | (t, c) :: r, n, d, l, e => by
  unfold FM
  split
  ·intro _; exact ⟨Int.le_refl _, rfl⟩
  ·split
   ·rename_i q hq
    intro h
    have := PJ o r (n + 1) q.1 q.2.1 q.2.2 h
    exact ⟨by have := this.1; omega, this.2⟩
   ·intro _; exact ⟨Int.le_refl _, rfl⟩
theorem Oi (o : Ac) (X Y : List (UQ × Bool)) : ∀ (L : List UQ) (n d : Nat) (l : Log) (e : Bool), (FM o (L.map (fun x => (x, true)) ++ X) n d l e).2.1 = 20 -> (FM o (L.map (fun x => (x, true)) ++ X) n d l e).2.2 <= (n : Int) + L.length ->
  FM o (L.map (fun x => (x, true)) ++ Y) n d l e = FM o (L.map (fun x => (x, true)) ++ X) n d l e
 | [], n, d, l, e => by
  intro h1 h2
  have := (PJ o X n d l e (by rw [List.map_nil, List.nil_append] at h1; rw [h1]; decide)).1
  rw [List.map_nil, List.nil_append] at h2
  rw [List.length_nil] at h2
  omega
 | t :: L, n, d, l, e => by
  intro h1 h2
  simp only [List.map_cons, List.cons_append] at h1 h2 ⊢
  have hu : ∀ Z, FM o ((t, true) :: Z) n d l e = match G4 o d l e t with
   | .inl q => FM o Z (n + 1) q.1 q.2.1 q.2.2
   | .inr k => (EW, k, (n : Int) + 1) := fun Z => by
   conv => lhs; unfold FM
   rw [if_neg (by simp)]
   all_goals (cases G4 o d l e t <;> rfl)
  rw [hu] at h1 h2
  rw [hu, hu]
  cases hs : G4 o d l e t with
  | inr k => rfl
  | inl q =>
   simp only [hs] at h1 h2 ⊢
   exact Oi o X Y L (n + 1) q.1 q.2.1 q.2.2 h1 (by rw [List.length_cons] at h2; omega)
section
variable {N : Nat}
theorem Sh (s : UQ) (hs : s.length <= 1000000000) (hN : 4294967300 < N) : ∃ (M : List UQ) (t : UQ), s = (M.flatMap fun y => y ++ [10]) ++ t /\ (∀ y, y ∈ M -> (10 : UInt8) ∉ y) /\ (10 : UInt8) ∉ t /\ Ff N s = some (if t = [] then (M, true) else (M ++ [t], false)) := by
 unfold Ff
 obtain ⟨o, ho, hR⟩ := Fm (body := CT N s) s.length (fun i st => ∃ a : Nat, st.2.1 = (a : Int) /\ st.2.2 = (i : Int) /\ a <= i /\ s.take i = (st.1.flatMap fun y => y ++ [10]) ++ (s.take i).drop a /\ (∀ y, y ∈ st.1 -> (10 : UInt8) ∉ y) /\ (10 : UInt8) ∉ (s.take i).drop a /\ st.1.length <= i)
  (fun o => ∃ M : List UQ, ∃ a : Nat, o = .done (M, (a : Int), (s.length : Int)) /\ a <= s.length /\ s = (M.flatMap fun y => y ++ [10]) ++ s.drop a /\ (∀ y, y ∈ M -> (10 : UInt8) ∉ y) /\ (10 : UInt8) ∉ s.drop a /\ M.length <= s.length) (by
   rintro i ⟨M, p, q⟩ hi ⟨a, e1, e2, ha, e3, e4, e5, e6⟩
   simp only at e1 e2 e3 e4 e6
   subst e1 e2
   by_cases h : i < s.length
   ·have htk : s.take (i + 1) = s.take i ++ [s[i]] := by rw [List.take_add_one, List.getElem?_eq_getElem h]; rfl
    have hdr : (s.take (i + 1)).drop a = (s.take i).drop a ++ [s[i]] := by
     rw [htk, List.drop_append_of_le_length (by simp; omega)]
    have hdl : (s.take (i + 1)).drop (i + 1) = [] := List.drop_eq_nil_of_le (by rw [List.length_take]; omega)
    unfold CT
    simp only
    rw [Gs h, cond_true, N9 h, Option.bind_some]
    by_cases h10 : s[i] = 10
    ·have hc : (((s[i].toNat : Int)) == 10) = true := by rw [h10]; rfl
     refine .inl ⟨(M ++ [(s.take i).drop a], ((i + 1 : Nat) : Int), ((i + 1 : Nat) : Int)), ?_, ⟨i + 1, rfl, rfl, Nat.le_refl _, ?_, ?_, ?_, ?_⟩, h⟩
     ·rw [hc, cond_true, I5 ha (by omega), Option.bind_some, OP (by omega), Option.bind_some, I2 i (by omega), <- List.drop_take]
      rfl
     ·rw [hdl, List.append_nil, List.flatMap_append, htk, h10]
      simp only [List.flatMap_cons, List.flatMap_nil, List.append_nil]
      rw [<- List.append_assoc, <- e3]
     ·intro y hy
      rcases List.mem_append.1 hy with hy | hy
      ·exact e4 y hy
      ·rw [List.mem_singleton.1 hy]; exact e5
     ·rw [hdl]; simp
     ·simp; omega
    ·have hc : (((s[i].toNat : Int)) == 10) = false := by
      rw [beq_eq_false_iff_ne]
      intro e
      exact h10 (UInt8.toNat_inj.1 (by show s[i].toNat = 10; omega))
     refine .inl ⟨(M, (a : Int), ((i + 1 : Nat) : Int)), ?_, ⟨a, rfl, rfl, by omega, ?_, e4, ?_, by show M.length <= i + 1; omega⟩, h⟩
     ·rw [hc, cond_false, Option.bind_some, I2 i (by omega)]
     ·rw [hdr, <- List.append_assoc, <- e3, htk]
     ·rw [hdr, List.mem_append]
      rintro (h' | h')
      ·exact e5 h'
      ·exact h10 (List.mem_singleton.1 h').symm
   ·have hii : i = s.length := by omega
    subst hii
    unfold CT
    simp only
    rw [EK, cond_false]
    rw [List.take_length] at e3 e5
    exact .inr ⟨_, rfl, (fun _ e => by cases e), ⟨M, a, rfl, ha, e3, e4, e5, e6⟩⟩) s.length N 0 ([], 0, 0) (by omega) ⟨0, rfl, rfl, Nat.le_refl _, by simp, by simp, by simp, by simp⟩ (by omega)
 obtain ⟨M, a, rfl, h1, h2, h3, h4, h5⟩ := hR
 refine ⟨M, s.drop a, h2, h3, h4, ?_⟩
 rw [ho, Option.bind_some]
 show (bif decide ((a : Int) < (s.length : Int)) then _ else _) = _
 by_cases ha : a < s.length
 ·rw [Gs ha, cond_true, I5 (by omega) (Nat.le_refl _), Option.bind_some, <- List.drop_take, List.take_length, OP (by show M.length + 1 < 4294967296; omega), Option.bind_some, if_neg (fun e => by
   have := congrArg List.length e
   rw [List.length_drop, List.length_nil] at this
   omega)]
 ·have : a = s.length := by omega
  subst this
  rw [EK, cond_false, if_pos (by simp)]
theorem Nw (o : Ac) (s u : UQ) (hN : 4294967300 < N) : Db N o s u = some true := by
 unfold Db
 rw [show Hj N = some true from rfl, Option.bind_some, show ({ Report := o.Report, Serial := o.Serial, Zone := o.Zone } : Ac) = o from rfl]
 by_cases h1 : s.length > 4000
 ·rw [decide_eq_true (show (s.length : Int) > 4000 by omega)]; rfl
 rw [decide_eq_false (show ¬ (s.length : Int) > 4000 by omega)]
 by_cases h2 : u.length > 1000
 ·rw [decide_eq_true (show (u.length : Int) > 1000 by omega)]; rfl
 rw [decide_eq_false (show ¬ (u.length : Int) > 1000 by omega), Bool.or_false, cond_false, PW o s (by omega) hN, Option.bind_some]
 obtain ⟨M, t, e1, e2, e3, e4⟩ := Sh (N := N) s (by omega) hN
 rw [e4, Option.bind_some]
 have hp : Cs o s = FM o (M.map (fun x => (x, true)) ++ lnE t) 0 0 EW false := by
  unfold Cs
  rw [if_neg (by omega)]
  conv => lhs; rw [e1, NB e2]
 by_cases hc : (Cs o s).2.1 = 20
 ·rw [show ((Cs o s).2.1 != 20) = false by rw [hc]; rfl, Bool.false_or]
  by_cases hl : (Cs o s).2.2 <= (M.length : Int)
  ·have hsu : Cs o (s ++ u) = Cs o s := by
    have : Cs o (s ++ u) = FM o (M.map (fun x => (x, true)) ++ lnE (t ++ u)) 0 0 EW false := by
     unfold Cs
     rw [if_neg (by simp; omega)]
     conv => lhs; rw [e1, List.append_assoc, NB e2]
    rw [this, hp]
    rw [hp] at hc hl
    exact Oi o _ _ M 0 0 EW false hc (by omega)
   have hfin : ((CQ s u).bind fun r82 => ((CX N o r82).bind fun r85 => some (true && ((r85.2.1 == 20) && (r85.2.2 == (Cs o s).2.2))))) = some true := by
    rw [CD (by omega), Option.bind_some, PW o _ (by simp; omega) hN, Option.bind_some, hsu, hc]
    simp
   rw [hfin]
   have hb : ∀ b : Bool, (bif b then some true else some true) = some true := fun b => by cases b <;> rfl
   exact hb _
  ·have hgt : (decide ((Cs o s).2.2 > (((if t = [] then (M, true) else (M ++ [t], false)).1.length : Nat) : Int)) || (((Cs o s).2.2 == (((if t = [] then (M, true) else (M ++ [t], false)).1.length : Nat) : Int)) && (!(if t = [] then (M, true) else (M ++ [t], false)).2))) = true := by
    by_cases ht : t = []
    ·rw [if_pos ht, decide_eq_true (by show (Cs o s).2.2 > (M.length : Int); omega)]; rfl
    ·rw [if_neg ht]
     show (decide ((Cs o s).2.2 > (((M ++ [t]).length : Nat) : Int)) || (((Cs o s).2.2 == (((M ++ [t]).length : Nat) : Int)) && true)) = true
     rw [Bool.and_true, List.length_append, List.length_singleton]
     by_cases h3 : (Cs o s).2.2 = ((M.length + 1 : Nat) : Int)
     ·rw [h3]; simp
     ·rw [decide_eq_true (by omega)]; rfl
   rw [hgt]; rfl
 ·rw [show ((Cs o s).2.1 != 20) = true by simpa using hc]; rfl
end
theorem Pe (x0 : Ac) (x1 x2 : UQ) {P Q R : Prop} (_ : P) (_ : Q) (_ : R) : Db 9223372036854775808 x0 x1 x2 = some true := Nw x0 x1 x2 (by decide)
end
end Go.Proofs.YthljkpeimofbbaaGreatDoor
