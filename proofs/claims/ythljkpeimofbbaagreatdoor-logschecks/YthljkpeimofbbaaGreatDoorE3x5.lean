/- Lemmas of the claim LogsChecks, printed by a program of the claimant and by hand. No statement of the seat is proved here. -/
import Derived.Test.YthljkpeimofbbaaGreatDoorE3x4
set_option linter.unusedVariables false
set_option linter.unusedSimpArgs false
set_option linter.unusedSectionVars false
set_option maxHeartbeats 4000000
set_option maxRecDepth 100000
namespace Go.Proofs.YthljkpeimofbbaaGreatDoor
def HL (N : Nat) (x0 : UO) (x1 : (List Eh)) (m30 : Al) (r36 : UO) (r44 : UO) (r52 : UO) (r60 : UO) (r68 : UO) : (Int × Int × UO) -> Option (Ba (UO × Int) (Int × Int × UO)) := fun s95 =>
 (bif (decide (s95.2.1 < (x1.length : Int))) then ((idx x1 s95.2.1).bind fun x128 => ((bif (x128.At != s95.1) then none else (bif (decide (x128.Kind < 1)) then none else (bif (decide (x128.Kind > 4)) then none else (bif (!((x128.Kind == 4) == (x128.Text != ([] : UO)))) then none else (bif (x128.Kind == 4) then ((Cr N ([r36, r44, r52, r60, r68]) x128.Text).bind fun r178 => (bif (!r178) then none else (bif (!(x128.Kind == 4)) then some (s95.1 == (m30.lines_.length : Int)) else some false))) else (bif (!(x128.Kind == 4)) then some (s95.1 == (m30.lines_.length : Int)) else some false)))))).bind fun j150 => (bif j150 then none else (bif (x128.Kind == 4) then ((DE x128.Text ([10] : UO)).bind fun r201 => ((Jy s95.2.2 r201).bind fun t207 => some (.next (s95.1, (W64 (s95.2.1 + 1)), t207)))) else ((bif (x128.Kind == 1) then ((idx m30.lines_ s95.1).bind fun x233 => ((DE x233 ([10] : UO)).bind fun r247 => ((Jy s95.2.2 r247).bind fun t253 => some t253))) else (bif (x128.Kind == 2) then ((idx m30.lines_ s95.1).bind fun x262 => ((Ky N x262).bind fun r276 => ((DE r276 ([10] : UO)).bind fun r284 => ((Jy s95.2.2 r284).bind fun t290 => some t290)))) else none)).bind fun j217 => some (.next ((W64 (s95.1 + 1)), (W64 (s95.2.1 + 1)), j217))))))) else some (.done (s95.1, s95.2.1, s95.2.2)))
def Lr (N : Nat) (x0 : UO) (x1 : (List Eh)) : Option (UO × Int) :=
 ((GX N ({ Report := false, Serial := false, Zone := false } : Ac) x0).bind fun r21 => osk r21 (some (([] : UO), 2)) (fun m30 => ((Cb N 1).bind fun r36 => ((Cb N 2).bind fun r44 => ((Cb N 3).bind fun r52 => ((Cb N 4).bind fun r60 => ((Cb N 5).bind fun r68 => ((AO (HL N x0 x1 m30 r36 r44 r52 r60 r68) N (0, 0, ([] : UO))).bind fun o => o.k (fun r => some r) (fun s109 => (bif (decide (s109.1 < (m30.lines_.length : Int))) then none else some (s109.2.2, 0)))))))))))
theorem MK : Af Tryz.prog 44 := fun _ _ => by kernel_rfl
theorem Nr (N : Nat) (w0 : World) (F0 : Mem) (hF : UQ w0 F0) (hG : Bm F0) (x0 : UO) (x1 : (List Eh)) (a1_0 : UP) (n1_0 : Nat) (hb1_0 : LC x1.length n1_0) (hs1_0 : SlA JC F0 a1_0 x1) (r : (UO × Int)) (h : Lr N x0 x1 = some r) :
  Calls Tryz.prog 44 ([(sv x0), (.slice a1_0 x1.length n1_0)] : List Value).toArray w0 (AA w0 F0 fun F' v => v = (.tuple #[(sv r.1), (vi r.2)])) := by
 have hs0 := Uv hF
 refine Go 124 Tryz.func44 <| Sq (Rg [0, 1] ?_)
 refine Vs 2 <| Nss (Rg (rG 8) ?_)
 refine Vs 2 ?_
 obtain ⟨r21, hr22, h23⟩ := bind_some h
 refine RWP.callO (dst := (some 17)) (ty := 139) (g := none) (by kernel_rfl) rfl (f0 := (.func 108)) (aos := #[(.tmp 15), (.tmp 16)]) (ats := #[23, 9]) (fid := 108) (first := #[]) (cap := #[]) (args := [(.agg #[(.bool false), (.bool false), (.bool false)]), (sv x0)]) rfl Hj rfl hs0 (Ig N w0 F0 hs0.pers hG (({ Report := false, Serial := false, Zone := false } : Ac)) x0 _ hr22) ?_
 rintro v24 F1 w25 L29 hs26 le27 hp28
 rcases r21 with _ | m30
 ·obtain ⟨rfl, rfl⟩ := FB hp28
  have h31 := Td h23
  have hs32 : HS w0 F0 w25 F1 [] := hs26
  refine Vs 5 <| Nss <| Sq (Rg [0, 1] ?_)
  refine Vs 2 <| Nt <| C1 (rfl : true = true) <| Sq (Rg [0, 1, 2] ?_)
  refine Vs 3 <| Nt <| Rt <| Ae ?_
  obtain rfl := Aa h31
  exact Re [(sv (([] : UO))), (vi 2)] hs32 rfl
 ·obtain ⟨b33, am30_3, nm30_3, mbm30_4, em30_4, mbm30_5, em30_5, rfl, rfl, hbm30_3, hsm30_3, hrm30_4, hrm30_5⟩ := FA hp28
  have h34 := Tc h23
  have hs35 : HS w0 F0 w25 F1 [(sb b33 #[(.bool m30.o_.Report), (.bool m30.o_.Serial), (.bool m30.o_.Zone), (.slice am30_3 m30.lines_.length nm30_3), (.map (some mbm30_4)), (.map (some mbm30_5))] 148), em30_4, em30_5] := hs26
  refine Vs 5 <| Nss <| Sq (Rg [0, 1] ?_)
  refine Vs 2 <| Nt <| C0 (rfl : false = false) <| Sc <| Ab <| Sq (Rg (rG 7) ?_)
  obtain ⟨r36, hr37, h38⟩ := bind_some h34
  refine Cl' BS hs35 (B5 N w25 F1 hs35.pers 1 _ hr37) ?_
  rintro _ F2 w40 hs41 le42 rfl
  obtain ⟨r44, hr45, h46⟩ := bind_some h38
  refine Cl' BS hs41 (B5 N w40 F2 hs41.pers 2 _ hr45) ?_
  rintro _ F3 w48 hs49 le50 rfl
  obtain ⟨r52, hr53, h54⟩ := bind_some h46
  refine Cl' BS hs49 (B5 N w48 F3 hs49.pers 3 _ hr53) ?_
  rintro _ F4 w56 hs57 le58 rfl
  obtain ⟨r60, hr61, h62⟩ := bind_some h54
  refine Cl' BS hs57 (B5 N w56 F4 hs57.pers 4 _ hr61) ?_
  rintro _ F5 w64 hs65 le66 rfl
  obtain ⟨r68, hr69, h70⟩ := bind_some h62
  refine Cl' BS hs65 (B5 N w64 F5 hs65.pers 5 _ hr69) ?_
  rintro _ F6 w72 hs73 le74 rfl
  refine Bs 9 [(sv r36), (sv r44), (sv r52), (sv r60), (sv r68)] hs73 (fun b76 w77 hs78 => ?_)
  have hr80 : Av AK 9 F6 (some ⟨b76, 0, none⟩) 5 [r36, r44, r52, r60, r68] (some b76, .cells ([(sv r36), (sv r44), (sv r52), (sv r60), (sv r68)] : List Value).toArray 9 (0, 0)) := UJ ⟨rfl, ⟨rfl, ⟨rfl, ⟨rfl, ⟨rfl, rfl⟩⟩⟩⟩⟩ (by simp)
  refine Vs 1 <| Nss (Rg [0] ?_)
  refine Al' 105 #[.pointer none, .slice none 0 0] hs78 (fun b81 w82 hs83 => ?_)
  obtain ⟨Lf84, hs85, hJ86⟩ := Fa.new hs83
  have hs87 : HS w0 F0 w82 F6 ((some b76, .cells ([(sv r36), (sv r44), (sv r52), (sv r60), (sv r68)] : List Value).toArray 9 (0, 0)) :: (sb b33 #[(.bool m30.o_.Report), (.bool m30.o_.Serial), (.bool m30.o_.Zone), (.slice am30_3 m30.lines_.length nm30_3), (.map (some mbm30_4)), (.map (some mbm30_5))] 148) :: em30_4 :: em30_5 :: Lf84) := hs85
  refine Nss (Rg [0] ?_)
  refine Vs 1 <| Nss <| Sq (Rg [0, 1, 2] ?_)
  refine Vs 3 <| Nt ?_
  have hb91 := UH hr80
  obtain ⟨F7, hs88, le89, hs90⟩ := hs87.fr0 hr80
  obtain ⟨o92, ho93, h94⟩ := bind_some h70
  refine UA (fun f w => ∃ (s109 : (Int × Int × UO)) (F9 : Mem) (Lf113 : Own), o92 = .done s109 /\ HS w0 F0 w F9 ((sb b33 #[(.bool m30.o_.Report), (.bool m30.o_.Serial), (.bool m30.o_.Zone), (.slice am30_3 m30.lines_.length nm30_3), (.map (some mbm30_4)), (.map (some mbm30_5))] 148) :: em30_4 :: em30_5 :: Lf113) /\ Ut F7 F9 /\ FI f [] [(6, (pt b33 0)), (9, (pt b81 0)), (10, (vi s109.1))] /\ Fa b81 s109.2.2 F9 Lf113) ?_ ?_
  ·refine Bk ?_
   refine Us (by kernel_rfl) (fun m f w => ∃ (s95 : (Int × Int × UO)) (F8 : Mem) (Lf99 : Own), AO (HL N x0 x1 m30 r36 r44 r52 r60 r68) m s95 = some o92 /\ HS w0 F0 w F8 ((sb b33 #[(.bool m30.o_.Report), (.bool m30.o_.Serial), (.bool m30.o_.Zone), (.slice am30_3 m30.lines_.length nm30_3), (.map (some mbm30_4)), (.map (some mbm30_5))] 148) :: em30_4 :: em30_5 :: Lf99) /\ Ut F7 F8 /\ FI f [] [(6, (pt b33 0)), (8, (.slice (some ⟨b76, 0, none⟩) [r36, r44, r52, r60, r68].length 5)), (9, (pt b81 0)), (10, (vi s95.1)), (29, (.slice a1_0 x1.length n1_0)), (30, (vi (x1.length : Int))), (31, (vi s95.2.1))] /\ Fa b81 s95.2.2 F8 Lf99) N ⟨(0, 0, ([] : UO)), F7, Lf84, ho93, hs88, (Uu _), fI, (Fa.mono _ _ _ _ hJ86 le89)⟩ ?_
   rintro m119 f w96 ⟨s95, F8, Lf99, hit120, hs97, le98, ⟨_, rfl⟩, hJ100⟩
   obtain ⟨m121, fl122, rfl, hb123, hnx124⟩ := AD hit120
   refine Sq (Rg [0] ?_)
   refine Vs 1 <| Nss <| Cd hb123 (fun hb125 h126 => ?_) (fun hb125 h127 => ?_)
   ·refine Sc ?_
    refine Ab <| Sq <| Bk <| Sq (Rg (rG 4) ?_)
    obtain ⟨x128, hx129, h131⟩ := bind_some h126
    obtain ⟨hi130, hx129'⟩ := Ak hx129
    obtain ⟨b132, o133, C134, E135, fz136, rfl, hF138, hE139⟩ := UB (Uw hs1_0 (((((((le27.t le42).trans le50).trans le58).trans le66).trans le74).trans le89).trans le98)) hx129'
    have hc141 := hE139 _ _ hx129'
    refine Ix hi130 <| Lx 0 (hs97.pers _ _ hF138) hc141 <| Al' 150 #[(vi 0), (vi 0), (sv (([] : UO)))] hs97 (fun b142 w143 hs144 => ?_)
    refine St0 (FT x128) hs144 (fun w145 hs146 => ?_)
    refine Nss (Rg (rG 4) ?_)
    refine Vs 1 <| Ld hs146.at0 <| Vs 2 <| Nss <| Sq (Rg (rG 44) ?_)
    obtain ⟨j150, hj161, h162⟩ := bind_some h131
    refine Uz (fun f w => ∃ (F10 : Mem), HS w0 F0 w F10 ((sb b142 (FT x128) 150) :: (sb b33 #[(.bool m30.o_.Report), (.bool m30.o_.Serial), (.bool m30.o_.Zone), (.slice am30_3 m30.lines_.length nm30_3), (.map (some mbm30_4)), (.map (some mbm30_5))] 148) :: em30_4 :: em30_5 :: Lf99) /\ Ut F8 F10 /\ FI f [] [(6, (pt b33 0)), (8, (.slice (some ⟨b76, 0, none⟩) [r36, r44, r52, r60, r68].length 5)), (9, (pt b81 0)), (10, (vi s95.1)), (12, (pt b142 0)), (29, (.slice (some ⟨b132, o133, none⟩) x1.length n1_0)), (30, (vi (x1.length : Int))), (31, (vi s95.2.1)), (81, (.bool j150))]) ?_ ?_
    ·refine Vs 1 ?_
     refine Ld hs146.at0 <| Vs 3 <| Sp hj161 (fun hb163 h164 => ?_) (fun hb163 h165 => ?_)
     ·cases h164
     ·refine Vgs hb163 1 ?_
      refine Lg hb163 hs146.at0 <| Vgs hb163 1 <| Pk0 hb163 <| Vs 1 <| Sp h165 (fun hb166 h167 => ?_) (fun hb166 h168 => ?_)
      ·cases h167
      ·refine Vgs hb166 1 ?_
       refine Lg hb166 hs146.at0 <| Vgs hb166 1 <| Pk0 hb166 <| Vs 1 <| Sp h168 (fun hb169 h170 => ?_) (fun hb169 h171 => ?_)
       ·cases h170
       ·refine Vgs hb169 2 ?_
        refine Lg hb169 hs146.at0 <| Vgs hb169 2 <| Pk0 hb169 <| Vs 1 <| Sp h171 (fun hb172 h173 => ?_) (fun hb172 h174 => ?_)
        ·cases h173
        ·refine Vgs hb172 2 ?_
         refine Sp h174 (fun hb175 h176 => ?_) (fun hb175 h177 => ?_)
         ·refine Vgs hb175 2 ?_
          refine Lg hb175 hs146.at0 ?_
          obtain ⟨r178, hr179, h180⟩ := bind_some h176
          refine Cg hb175 D8 hs146 (Ej N w145 F8 hs146.pers ([r36, r44, r52, r60, r68]) (some ⟨b76, 0, none⟩) 5 hb91 (Uw hs90 le98) x128.Text _ hr179) ?_
          rintro _ F11 w182 hs183 le184 rfl
          refine Vgs hb175 1 <| Pg1 hb172 hb175 <| Pk0 hb172 <| Vs 1 <| Sp h180 (fun hb186 h187 => ?_) (fun hb186 h188 => ?_)
          ·cases h187
          ·refine Vgs hb186 3 ?_
           refine Sp h188 (fun hb189 h190 => ?_) (fun hb189 h191 => ?_)
           ·refine Vgs hb189 4 ?_
            refine Lg hb189 hs183.at1 <| Vgs hb189 2 <| Pg1 hb186 hb189 <| Pk0 hb186 ?_
            obtain rfl := Aa h190
            exact Up ⟨rfl, F11, hs183, le184, fI⟩
           ·refine Ss hb189 7 ?_
            refine Pg0 hb186 hb189 <| Pk0 hb186 ?_
            obtain rfl := Aa h191
            exact Up ⟨rfl, F11, hs183, le184, fI⟩
         ·refine Ss hb175 5 ?_
          refine Pg0 hb172 hb175 <| Pk0 hb172 <| Vs 1 <| Vg 70 4 31 false 69 rfl (mv 13 (.bool (x128.Kind == 4))) <| Vg 71 4 31 false 69 rfl (N4 (t := 4) (x := (.tmp 70)) (a := (x128.Kind == 4)) rfl) <| Vg 72 4 31 false 69 rfl (mv 71 (.bool (!(x128.Kind == 4)))) <| Sp h177 (fun hb192 h193 => ?_) (fun hb192 h194 => ?_)
          ·refine Vgs hb192 4 ?_
           refine Lg hb192 hs146.at1 <| Vgs hb192 2 <| Vg 80 4 31 false 69 rfl (p1 72 (.tmp 79) (.const (.bool false)) (.bool (s95.1 == (m30.lines_.length : Int))) hb192) <| Pk0 (rfl : false = false) ?_
           obtain rfl := Aa h193
           exact Up ⟨rfl, F8, hs146, (Uu _), fI⟩
          ·refine Ss hb192 7 ?_
           refine Vg 80 4 31 false 69 rfl (p0 72 (.tmp 79) (.const (.bool false)) (.bool false) hb192) <| Pk0 (rfl : false = false) ?_
           obtain rfl := Aa h194
           exact Up ⟨rfl, F8, hs146, (Uu _), fI⟩
    ·rintro f w147 ⟨F10, hs148, le149, ⟨_, rfl⟩⟩
     refine Ab <| Cd h162 (fun hb195 h196 => ?_) (fun hb195 h197 => ?_)
     ·cases h196
     ·refine Sc ?_
      refine Ab <| Sq <| Sq (Rg [0, 1] ?_)
      refine Vs 1 <| Ld hs148.at0 <| Nt <| Bk <| Sq (Rg [0, 1] ?_)
      refine Vs 2 <| Nt <| Cd h197 (fun hb198 h199 => ?_) (fun hb198 h200 => ?_)
      ·refine Sq (Rg (rG 4) ?_)
       refine Vs 1 <| Ld hs148.at0 ?_
       obtain ⟨r201, hr202, h203⟩ := bind_some h199
       refine V 88 9 (AV (t := 9) (t' := 9) (x := (.tmp 87)) (y := (.const (sv ([10] : UO)))) (a := x128.Text) (b := ([10] : UO)) (v := r201) rfl rfl hr202) ?_
       obtain ⟨t207, ht208, h209⟩ := bind_some h203
       refine CB Bf (Ds (L := [(sb b142 (FT x128) 150), (sb b33 #[(.bool m30.o_.Report), (.bool m30.o_.Serial), (.bool m30.o_.Zone), (.slice am30_3 m30.lines_.length nm30_3), (.map (some mbm30_4)), (.map (some mbm30_5))] 148), em30_4, em30_5]) ht208 (Fa.mono _ _ _ _ hJ100 le149) hs148) ?_
       rintro _ F12 w204 _ hs205 le206 ⟨rfl, Lf210, rfl, hJ211⟩
       have hs212 : HS w0 F0 w204 F12 ((sb b142 (FT x128) 150) :: (sb b33 #[(.bool m30.o_.Report), (.bool m30.o_.Serial), (.bool m30.o_.Zone), (.slice am30_3 m30.lines_.length nm30_3), (.map (some mbm30_4)), (.map (some mbm30_5))] 148) :: em30_4 :: em30_5 :: Lf210) := hs205
       refine Nt <| Ex <| LE (by decide) <| Ao <| Ay rfl <| Ab <| Rg [0, 1] <| Vs 2 <| Up ?_
       have hn213 := AJ h209 hnx124
       exact ⟨m121, Nat.lt_succ_self _, (s95.1, (W64 (s95.2.1 + 1)), t207), F12, Lf210, hn213, hs212.dr0, ((le98.t le149).trans le206), fI, hJ211⟩
      ·refine Sq (Rg [0, 1] ?_)
       refine Vs 2 <| Nt ?_
       obtain ⟨j217, hj228, h229⟩ := bind_some h200
       refine UA (fun f w => ∃ (F13 : Mem) (Lf218 : Own), HS w0 F0 w F13 ((sb b33 #[(.bool m30.o_.Report), (.bool m30.o_.Serial), (.bool m30.o_.Zone), (.slice am30_3 m30.lines_.length nm30_3), (.map (some mbm30_4)), (.map (some mbm30_5))] 148) :: em30_4 :: em30_5 :: Lf218) /\ Ut F10 F13 /\ FI f [] [(6, (pt b33 0)), (8, (.slice (some ⟨b76, 0, none⟩) [r36, r44, r52, r60, r68].length 5)), (9, (pt b81 0)), (10, (vi s95.1)), (29, (.slice (some ⟨b132, o133, none⟩) x1.length n1_0)), (30, (vi (x1.length : Int))), (31, (vi s95.2.1))] /\ Fa b81 j217 F13 Lf218) ?_ ?_
       ·refine Cd hj228 (fun hb230 h231 => ?_) (fun hb230 h232 => ?_)
        ·refine Rg (rG 9) ?_
         refine Vs 3 <| Ld hs148.at1 <| Vs 1 ?_
         obtain ⟨x233, hx234, h236⟩ := bind_some h231
         obtain ⟨hi235, hx234'⟩ := Ak hx234
         obtain ⟨b237, o238, C239, E240, fz241, rfl, hF243, hE244⟩ := UB (Uw hsm30_3 (((((((le42.t le50).trans le58).trans le66).trans le74).trans le89).trans le98).trans le149)) hx234'
         have hc246 := hE244 _ _ hx234'
         refine Ix hi235 <| Lx 0 (hs148.pers _ _ hF243) hc246 ?_
         obtain ⟨r247, hr248, h249⟩ := bind_some h236
         refine V 99 9 (AV (t := 9) (t' := 9) (x := (.tmp 98)) (y := (.const (sv ([10] : UO)))) (a := x233) (b := ([10] : UO)) (v := r247) rfl rfl hr248) ?_
         obtain ⟨t253, ht254, h255⟩ := bind_some h249
         refine CB Bf (Ds (L := [(sb b142 (FT x128) 150), (sb b33 #[(.bool m30.o_.Report), (.bool m30.o_.Serial), (.bool m30.o_.Zone), (.slice (some ⟨b237, o238, none⟩) m30.lines_.length nm30_3), (.map (some mbm30_4)), (.map (some mbm30_5))] 148), em30_4, em30_5]) ht254 (Fa.mono _ _ _ _ hJ100 le149) hs148) ?_
         rintro _ F14 w250 _ hs251 le252 ⟨rfl, Lf256, rfl, hJ257⟩
         have hs258 : HS w0 F0 w250 F14 ((sb b142 (FT x128) 150) :: (sb b33 #[(.bool m30.o_.Report), (.bool m30.o_.Serial), (.bool m30.o_.Zone), (.slice (some ⟨b237, o238, none⟩) m30.lines_.length nm30_3), (.map (some mbm30_4)), (.map (some mbm30_5))] 148) :: em30_4 :: em30_5 :: Lf256) := hs251
         refine Up ?_
         obtain rfl := Aa h255
         exact .inl ⟨rfl, F14, Lf256, hs258.dr0, le252, fI, hJ257⟩
        ·refine Sq (Rg [0, 1] ?_)
         refine Vs 2 <| Nt <| Cd h232 (fun hb259 h260 => ?_) (fun hb259 h261 => ?_)
         ·refine Rg (rG 10) ?_
          refine Vs 3 <| Ld hs148.at1 <| Vs 1 ?_
          obtain ⟨x262, hx263, h265⟩ := bind_some h260
          obtain ⟨hi264, hx263'⟩ := Ak hx263
          obtain ⟨b266, o267, C268, E269, fz270, rfl, hF272, hE273⟩ := UB (Uw hsm30_3 (((((((le42.t le50).trans le58).trans le66).trans le74).trans le89).trans le98).trans le149)) hx263'
          have hc275 := hE273 _ _ hx263'
          refine Ix hi264 <| Lx 0 (hs148.pers _ _ hF272) hc275 ?_
          obtain ⟨r276, hr277, h278⟩ := bind_some h265
          refine Cl' J7 hs148 (LD N w147 F10 hs148.pers x262 _ hr277) ?_
          rintro _ F15 w280 hs281 le282 rfl
          obtain ⟨r284, hr285, h286⟩ := bind_some h278
          refine V 111 9 (AV (t := 9) (t' := 9) (x := (.tmp 110)) (y := (.const (sv ([10] : UO)))) (a := r276) (b := ([10] : UO)) (v := r284) rfl rfl hr285) ?_
          obtain ⟨t290, ht291, h292⟩ := bind_some h286
          refine CB Bf (Ds (L := [(sb b142 (FT x128) 150), (sb b33 #[(.bool m30.o_.Report), (.bool m30.o_.Serial), (.bool m30.o_.Zone), (.slice (some ⟨b266, o267, none⟩) m30.lines_.length nm30_3), (.map (some mbm30_4)), (.map (some mbm30_5))] 148), em30_4, em30_5]) ht291 (Fa.mono _ _ _ _ hJ100 (le149.t le282)) hs281) ?_
          rintro _ F16 w287 _ hs288 le289 ⟨rfl, Lf293, rfl, hJ294⟩
          have hs295 : HS w0 F0 w287 F16 ((sb b142 (FT x128) 150) :: (sb b33 #[(.bool m30.o_.Report), (.bool m30.o_.Serial), (.bool m30.o_.Zone), (.slice (some ⟨b266, o267, none⟩) m30.lines_.length nm30_3), (.map (some mbm30_4)), (.map (some mbm30_5))] 148) :: em30_4 :: em30_5 :: Lf293) := hs288
          refine Up ?_
          obtain rfl := Aa h292
          exact .inl ⟨rfl, F16, Lf293, hs295.dr0, (le282.t le289), fI, hJ294⟩
         ·cases h261
       ·rintro f w214 ⟨F13, Lf218, hs215, le216, ⟨_, rfl⟩, hJ219⟩
        refine Aq <| Ab <| Rg [0, 1, 2] <| Vs 3 <| Up <| Aq <| Ab <| Rg [0, 1] <| Vs 2 <| Up ?_
        have hn296 := AJ h229 hnx124
        exact ⟨m121, Nat.lt_succ_self _, ((W64 (s95.1 + 1)), (W64 (s95.2.1 + 1)), j217), F13, Lf218, hn296, hs215, ((le98.t le149).trans le216), fI, hJ219⟩
   ·refine Ex ?_
    refine Ao <| Ao <| Ay rfl ?_
    have ho297 := AE h127 hnx124
    exact .inl ⟨rfl, (s95.1, s95.2.1, s95.2.2), F8, Lf99, ho297, hs97, le98, fI, hJ100⟩
  ·rintro f w110 ⟨s109, F9, Lf113, rfl, hs111, le112, ⟨_, rfl⟩, hJ114⟩
   have h298 := Bc h94
   refine Ab <| Sq <| Sq (Rg (rG 7) ?_)
   refine Vs 4 <| Ld hs111.at0 <| Vs 2 <| Nt <| Cd h298 (fun hb299 h300 => ?_) (fun hb299 h301 => ?_)
   ·cases h300
   ·refine Sc ?_
    refine Ab <| Sq (Rg [0, 1, 2] ?_)
    refine CB MN (NX (L := [(sb b33 #[(.bool m30.o_.Report), (.bool m30.o_.Serial), (.bool m30.o_.Zone), (.slice am30_3 m30.lines_.length nm30_3), (.map (some mbm30_4)), (.map (some mbm30_5))] 148), em30_4, em30_5]) hJ114 hs111) ?_
    rintro _ _ w302 _ hs303 _ ⟨rfl, rfl, rfl⟩
    refine Vs 2 <| Nt <| Rt ?_
    obtain rfl := Aa h301
    exact Re [(sv s109.2.2), (vi 0)] hs303 rfl
def OI (sR109 : Al -> An -> Option (Al × Int)) : Prop := ∀ {wb w0 : World} {Fb F0 : Mem} {Lf : Own} (hG : Bm F0) (bp0 : Nat) (x0 : Al) (a0_3 : UP) (n0_3 : Nat) (mb0_4 : Nat) (e0_4 : Option Nat × Obj) (mb0_5 : Nat) (e0_5 : Option Nat × Obj) (hb0_3 : LC x0.lines_.length n0_3) (hs0_3 : SlA AK F0 a0_3 x0.lines_) (hr0_4 : A4 Az AH F0 mb0_4 x0.known_ e0_4) (hr0_5 : A4 AK Au F0 mb0_5 x0.read_ e0_5) (x1 : An) (hs0 : HS wb Fb w0 F0 ((some bp0, (.cells #[(.bool x0.o_.Report), (.bool x0.o_.Serial), (.bool x0.o_.Zone), (.slice a0_3 x0.lines_.length n0_3), (.map (some mb0_4)), (.map (some mb0_5))] 148 (0, 0))) :: e0_4 :: e0_5 :: Lf)) (r : (Al × Int)), sR109 x0 x1 = some r -> Calls Tryz.prog 109 ([(.pointer (some ⟨bp0, 0, none⟩)), (.agg #[(.int .i64 x1.at_), (.int .i64 x1.stage_), (.int .i64 x1.num_), (.int .i64 x1.minute_)])] : List Value).toArray w0 (Es wb Fb F0 fun F' v L' => ∃ (aq0_3 : UP) (nq0_3 : Nat) (eq0_4 : Option Nat × Obj) (eq0_5 : Option Nat × Obj), v = (.int .i64 r.2) /\ L' = (some bp0, (.cells #[(.bool r.1.o_.Report), (.bool r.1.o_.Serial), (.bool r.1.o_.Zone), (.slice aq0_3 r.1.lines_.length nq0_3), (.map (some mb0_4)), (.map (some mb0_5))] 148 (0, 0))) :: eq0_4 :: eq0_5 :: Lf /\ LC r.1.lines_.length nq0_3 /\ SlA AK F' aq0_3 r.1.lines_ /\ A4 Az AH F' mb0_4 r.1.known_ eq0_4 /\ A4 AK Au F' mb0_5 r.1.read_ eq0_5)
theorem B9 : Af Tryz.prog 109 := fun _ _ => by kernel_rfl
def EH (N : Nat) (sR109 : Al -> An -> Option (Al × Int)) (x0 : Al) (x1 : An) : (Int × Int × Bool × Bool × Bool × List UO × List (An × Int) × List (UO × As)) -> Option (Ba (Al × Int) (Int × Int × Bool × Bool × Bool × List UO × List (An × Int) × List (UO × As))) := fun s53 =>
 (bif (decide (s53.2.1 <= 4)) then ((Em N ({ o_ := ({ Report := s53.2.2.1, Serial := s53.2.2.2.1, Zone := s53.2.2.2.2.1 } : Ac), lines_ := s53.2.2.2.2.2.1, known_ := s53.2.2.2.2.2.2.1, read_ := s53.2.2.2.2.2.2.2 } : Al) x1 s53.2.1).bind fun r79 => ((bif r79.2.2.2 then (((Kx N s53.2.1).bind fun r123 => ((sR109 r79.1 r79.2.1).bind fun r132 => some ((min s53.1 (W64 (r123 + r132.2))), r132.1.o_.Report, r132.1.o_.Serial, r132.1.o_.Zone, r132.1.lines_, r132.1.known_, r132.1.read_))).bind fun j115 => some (j115.1, j115.2.1, j115.2.2.1, j115.2.2.2.1, j115.2.2.2.2.1, j115.2.2.2.2.2.1, j115.2.2.2.2.2.2)) else some (s53.1, r79.1.o_.Report, r79.1.o_.Serial, r79.1.o_.Zone, r79.1.lines_, r79.1.known_, r79.1.read_)).bind fun j99 => some (.next (j99.1, (W64 (s53.2.1 + 1)), j99.2.1, j99.2.2.1, j99.2.2.2.1, j99.2.2.2.2.1, j99.2.2.2.2.2.1, j99.2.2.2.2.2.2)))) else some (.done (s53.1, s53.2.1, s53.2.2.1, s53.2.2.2.1, s53.2.2.2.2.1, s53.2.2.2.2.2.1, s53.2.2.2.2.2.2.1, s53.2.2.2.2.2.2.2)))
def EU (N : Nat) (sR109 : Al -> An -> Option (Al × Int)) (x0 : Al) (x1 : An) : Option (Al × Int) :=
 (bif ((x1.at_ == (x0.lines_.length : Int)) && (x1.stage_ == 6)) then some (x0, 0) else (bif (Of x0.known_ x1) then some (x0, (Dd x0.known_ x1 0)) else ((AO (EH N sR109 x0 x1) N (1099511627776, 1, x0.o_.Report, x0.o_.Serial, x0.o_.Zone, x0.lines_, x0.known_, x0.read_)).bind fun o => o.k (fun r => some r) (fun s62 => ((some (M7 s62.2.2.2.2.2.2.1 x1 s62.1)).bind fun j147 => some (({ o_ := ({ Report := s62.2.2.1, Serial := s62.2.2.2.1, Zone := s62.2.2.2.2.1 } : Ac), lines_ := s62.2.2.2.2.2.1, known_ := j147, read_ := s62.2.2.2.2.2.2.2 } : Al), s62.1))))))
theorem Ij (N : Nat) (sR109 : Al -> An -> Option (Al × Int)) (hsR109 : OI sR109) {wb w0 : World} {Fb F0 : Mem} {Lf : Own} (hG : Bm F0) (bp0 : Nat) (x0 : Al) (a0_3 : UP) (n0_3 : Nat) (mb0_4 : Nat) (e0_4 : Option Nat × Obj) (mb0_5 : Nat) (e0_5 : Option Nat × Obj) (hb0_3 : LC x0.lines_.length n0_3) (hs0_3 : SlA AK F0 a0_3 x0.lines_) (hr0_4 : A4 Az AH F0 mb0_4 x0.known_ e0_4) (hr0_5 : A4 AK Au F0 mb0_5 x0.read_ e0_5) (x1 : An) (hs0 : HS wb Fb w0 F0 ((sb bp0 #[(.bool x0.o_.Report), (.bool x0.o_.Serial), (.bool x0.o_.Zone), (.slice a0_3 x0.lines_.length n0_3), (.map (some mb0_4)), (.map (some mb0_5))] 148) :: e0_4 :: e0_5 :: Lf)) (r : (Al × Int)) (h : EU N sR109 x0 x1 = some r) :
  Calls Tryz.prog 109 ([(pt bp0 0), (.agg (Ai x1))] : List Value).toArray w0 (Es wb Fb F0 fun F' v L' => ∃ (aq0_3 : UP) (nq0_3 : Nat) (eq0_4 : Option Nat × Obj) (eq0_5 : Option Nat × Obj), v = (vi r.2) /\ L' = (sb bp0 #[(.bool r.1.o_.Report), (.bool r.1.o_.Serial), (.bool r.1.o_.Zone), (.slice aq0_3 r.1.lines_.length nq0_3), (.map (some mb0_4)), (.map (some mb0_5))] 148) :: eq0_4 :: eq0_5 :: Lf /\ LC r.1.lines_.length nq0_3 /\ SlA AK F' aq0_3 r.1.lines_ /\ A4 Az AH F' mb0_4 r.1.known_ eq0_4 /\ A4 AK Au F' mb0_5 r.1.read_ eq0_5) := by
 refine Go 64 Tryz.func109 <| Sq (Rg [0, 1] ?_)
 refine Bx' 143 (Ai x1) hs0 (fun b21 w22 hs23 => ?_)
 refine Vs 1 <| Nss <| Sq <| RD 13 13 [(sb b21 (Ai x1) 143), (sb bp0 #[(.bool x0.o_.Report), (.bool x0.o_.Serial), (.bool x0.o_.Zone), (.slice a0_3 x0.lines_.length n0_3), (.map (some mb0_4)), (.map (some mb0_5))] 148), e0_4, e0_5] [] hs23 (fun f w => ∃ (F1 : Mem), HS wb Fb w F1 ((sb b21 (Ai x1) 143) :: (sb bp0 #[(.bool x0.o_.Report), (.bool x0.o_.Serial), (.bool x0.o_.Zone), (.slice a0_3 x0.lines_.length n0_3), (.map (some mb0_4)), (.map (some mb0_5))] 148) :: e0_4 :: e0_5 :: Lf) /\ Ut F0 F1 /\ FI f [] [(0, (pt bp0 0)), (3, (pt b21 0)), (24, (.bool ((x1.at_ == (x0.lines_.length : Int)) && (x1.stage_ == 6))))]) (fun wd24 hw25 => ?_) ?_
 ·refine Dv [0] ?_
  refine Dl 1 (fun _ hq => (hq.1.2 0 _ _ rfl)) <| Dv [2, 3, 4] <| Dl 5 (fun _ hq => (hq.1.2 1 _ _ rfl)) <| Dv [6, 7, 8] <| DWP.split (x1.at_ == (x0.lines_.length : Int)) (fun hb33 => ?_) (fun hb33 => ?_)
  ·refine Dg 9 21 0 (pt b21 1) 8 true 20 hb33 (fun _ hq => fa 143 3 1 1 1 b21 0 1) ?_
   refine Dg 10 22 3 _ 8 true 20 hb33 (fun _ hq => ld 3 21 b21 1 false 1 (vi x1.stage_) (hq.1.2 0 _ _ rfl)) <| Dg 11 23 4 (.bool (x1.stage_ == 6)) 8 true 20 hb33 (fun _ hq => EZ (t := 3) (t' := 3) (x := (.tmp 22)) (y := (.const (vi 6))) (k := .i64) (a := x1.stage_) (b := 6) rfl rfl) <| Dt 12 24 4 _ (fun _ hq => p1 20 (.tmp 23) (.const (.bool false)) (.bool (x1.stage_ == 6)) hb33) ?_
   exact UG (by kernel_rfl) ⟨F0, hw25, (Uu _), (fJ ⟨rfl, rfl, (congrArg Value.bool (I9 hb33 rfl)), trivial⟩)⟩
  ·refine Dk [(9, 21), (10, 22), (11, 23)] 8 true 20 hb33 ?_
   refine Dt 12 24 4 _ (fun _ hq => p0 20 (.tmp 23) (.const (.bool false)) (.bool false) hb33) ?_
   exact UG (by kernel_rfl) ⟨F0, hw25, (Uu _), (fJ ⟨rfl, rfl, (congrArg Value.bool (Ja hb33 rfl)), trivial⟩)⟩
 ·rintro f w26 ⟨F1, hs27, le28, ⟨_, rfl⟩⟩
  refine Ab <| Cd h (fun hb34 h35 => ?_) (fun hb34 h36 => ?_)
  ·refine Sq (Rg [0] ?_)
   refine Vs 1 <| Nt <| Rt <| Ae ?_
   obtain rfl := Aa h35
   exact ReB [(vi 0)] hs27.dr0 le28 ⟨a0_3, n0_3, e0_4, e0_5, rfl, rfl, hb0_3, (Uw hs0_3 le28), (hr0_4.mono le28), (hr0_5.mono le28)⟩
  ·refine Sc ?_
   refine Ab <| Sq <| Sq <| RD 11 11 [(sb b21 (Ai x1) 143), (sb bp0 #[(.bool x0.o_.Report), (.bool x0.o_.Serial), (.bool x0.o_.Zone), (.slice a0_3 x0.lines_.length n0_3), (.map (some mb0_4)), (.map (some mb0_5))] 148), e0_4, e0_5] [] hs27 (fun f w => ∃ (F2 : Mem), HS wb Fb w F2 ((sb b21 (Ai x1) 143) :: (sb bp0 #[(.bool x0.o_.Report), (.bool x0.o_.Serial), (.bool x0.o_.Zone), (.slice a0_3 x0.lines_.length n0_3), (.map (some mb0_4)), (.map (some mb0_5))] 148) :: e0_4 :: e0_5 :: Lf) /\ Ut F1 F2 /\ FI f [] [(0, (pt bp0 0)), (3, (pt b21 0)), (5, (vi (Dd x0.known_ x1 0))), (6, (.bool (Of x0.known_ x1)))]) (fun wd37 hw38 => ?_) ?_
   ·refine Dv [0, 1, 2] ?_
    refine Dl 3 (fun _ hq => (hq.1.2 1 _ _ rfl)) <| Dl 4 (fun _ hq => (hq.1.2 0 _ _ rfl)) <| Dt 5 31 119 (.tuple #[(vi (Dd x0.known_ x1 0)), (.bool (Of x0.known_ x1))]) (fun _ hq => Mi (mt := 145) (k := 143) (vt := 3) (m := (.tmp 29)) (x := (.tmp 30)) (kv := (.agg (Ai x1))) (kx := x1) (z := (vi 0)) (zx := 0) (K := Az) (T := AH) Tg rfl rfl ⟨_, rfl, rfl⟩ (by kernel_rfl) (by kernel_rfl) ⟨_, rfl, rfl⟩ (A4.mpwD (i := 2) hq.1 rfl (hr0_4.mono le28)) (fun h => by obtain ⟨_, rfl, rfl⟩ := h; rfl)) <| Dv [6, 7, 8, 9, 10] ?_
    exact UG (by kernel_rfl) ⟨F1, hw38, (Uu _), fI⟩
   ·rintro f w39 ⟨F2, hs40, le41, ⟨_, rfl⟩⟩
    refine Ab <| Sq (Rg [0] ?_)
    refine Vs 1 <| Nt <| Cd h36 (fun hb47 h48 => ?_) (fun hb47 h49 => ?_)
    ·refine Sq (Rg [0, 1] ?_)
     refine Vs 2 <| Nt <| Rt <| Ae ?_
     obtain rfl := Aa h48
     exact ReB [(vi (Dd x0.known_ x1 0))] hs40.dr0 (le28.t le41) ⟨a0_3, n0_3, e0_4, e0_5, rfl, rfl, hb0_3, (Uw hs0_3 (le28.t le41)), (hr0_4.mono (le28.t le41)), (hr0_5.mono (le28.t le41))⟩
    ·refine Sc ?_
     refine Ab <| Sq (Rg [0] ?_)
     refine Vs 1 <| Nss <| Sq (Rg [0] ?_)
     refine Vs 1 <| Nt ?_
     obtain ⟨o50, ho51, h52⟩ := bind_some h49
     refine UA (fun f w => ∃ (s62 : (Int × Int × Bool × Bool × Bool × List UO × List (An × Int) × List (UO × As))) (F4 : Mem) (as62_5 : UP) (ns62_5 : Nat) (es62_6 : Option Nat × Obj) (es62_7 : Option Nat × Obj), o50 = .done s62 /\ HS wb Fb w F4 ((sb b21 (Ai x1) 143) :: (sb bp0 #[(.bool s62.2.2.1), (.bool s62.2.2.2.1), (.bool s62.2.2.2.2.1), (.slice as62_5 s62.2.2.2.2.2.1.length ns62_5), (.map (some mb0_4)), (.map (some mb0_5))] 148) :: es62_6 :: es62_7 :: Lf) /\ Ut F2 F4 /\ FI f [] [(0, (pt bp0 0)), (3, (pt b21 0)), (7, (vi s62.1))] /\ LC s62.2.2.2.2.2.1.length ns62_5 /\ SlA AK F4 as62_5 s62.2.2.2.2.2.1 /\ A4 Az AH F4 mb0_4 s62.2.2.2.2.2.2.1 es62_6 /\ A4 AK Au F4 mb0_5 s62.2.2.2.2.2.2.2 es62_7) ?_ ?_
     ·refine Bk ?_
      refine Us (by kernel_rfl) (fun m f w => ∃ (s53 : (Int × Int × Bool × Bool × Bool × List UO × List (An × Int) × List (UO × As))) (F3 : Mem) (as53_5 : UP) (ns53_5 : Nat) (es53_6 : Option Nat × Obj) (es53_7 : Option Nat × Obj), AO (EH N sR109 x0 x1) m s53 = some o50 /\ HS wb Fb w F3 ((sb b21 (Ai x1) 143) :: (sb bp0 #[(.bool s53.2.2.1), (.bool s53.2.2.2.1), (.bool s53.2.2.2.2.1), (.slice as53_5 s53.2.2.2.2.2.1.length ns53_5), (.map (some mb0_4)), (.map (some mb0_5))] 148) :: es53_6 :: es53_7 :: Lf) /\ Ut F2 F3 /\ FI f [] [(0, (pt bp0 0)), (3, (pt b21 0)), (7, (vi s53.1)), (8, (vi s53.2.1))] /\ LC s53.2.2.2.2.2.1.length ns53_5 /\ SlA AK F3 as53_5 s53.2.2.2.2.2.1 /\ A4 Az AH F3 mb0_4 s53.2.2.2.2.2.2.1 es53_6 /\ A4 AK Au F3 mb0_5 s53.2.2.2.2.2.2.2 es53_7) N ⟨(1099511627776, 1, x0.o_.Report, x0.o_.Serial, x0.o_.Zone, x0.lines_, x0.known_, x0.read_), F2, a0_3, n0_3, e0_4, e0_5, ho51, hs40, (Uu _), fI, hb0_3, (Uw hs0_3 (le28.t le41)), (hr0_4.mono (le28.t le41)), (hr0_5.mono (le28.t le41))⟩ ?_
      rintro m70 f w54 ⟨s53, F3, as53_5, ns53_5, es53_6, es53_7, hit71, hs55, le56, ⟨_, rfl⟩, hbs53_5, hss53_5, hrs53_6, hrs53_7⟩
      obtain ⟨m72, fl73, rfl, hb74, hnx75⟩ := AD hit71
      refine Sq <| Sq (Rg [0, 1] ?_)
      refine Vs 2 <| Nt <| Cd hb74 (fun hb76 h77 => ?_) (fun hb76 h78 => ?_)
      ·refine Sc ?_
       refine Ab <| Sq <| Bk <| Sq (Rg (rG 13) ?_)
       refine Vs 1 <| Ld hs55.at0 <| Vs 1 ?_
       obtain ⟨r79, hr80, h81⟩ := bind_some h77
       refine CB EY (Ft N (hG.mono ((le28.t le41).trans le56)) bp0 (({ o_ := ({ Report := s53.2.2.1, Serial := s53.2.2.2.1, Zone := s53.2.2.2.2.1 } : Ac), lines_ := s53.2.2.2.2.2.1, known_ := s53.2.2.2.2.2.2.1, read_ := s53.2.2.2.2.2.2.2 } : Al)) as53_5 ns53_5 mb0_4 es53_6 mb0_5 es53_7 hbs53_5 hss53_5 hrs53_6 hrs53_7 x1 s53.2.1 hs55.pk3.pk3.pk3 _ hr80) ?_
       rintro _ F5 w82 _ hs83 le84 ⟨ar79_0_3, nr79_0_3, er79_0_4, er79_0_5, rfl, rfl, hbr79_0_3, hsr79_0_3, hrr79_0_4, hrr79_0_5⟩
       refine Vs 4 <| Al' 143 #[(vi 0), (vi 0), (vi 0), (vi 0)] hs83 (fun b86 w87 hs88 => ?_)
       refine Al' 150 #[(vi 0), (vi 0), (sv (([] : UO)))] hs88 (fun b89 w90 hs91 => ?_)
       refine St1 (Ai r79.2.1) hs91 (fun w92 hs93 => ?_)
       refine St0 (FT r79.2.2.1) hs93 (fun w94 hs95 => ?_)
       refine Vs 1 <| Nss (Rg [0] ?_)
       refine Vs 1 <| Nt ?_
       obtain ⟨j99, hj105, h106⟩ := bind_some h81
       refine UA (fun f w => ∃ (F6 : Mem) (aj99_4 : UP) (nj99_4 : Nat) (ej99_5 : Option Nat × Obj) (ej99_6 : Option Nat × Obj), HS wb Fb w F6 ((sb bp0 #[(.bool j99.2.1), (.bool j99.2.2.1), (.bool j99.2.2.2.1), (.slice aj99_4 j99.2.2.2.2.1.length nj99_4), (.map (some mb0_4)), (.map (some mb0_5))] 148) :: ej99_5 :: ej99_6 :: (sb b21 (Ai x1) 143) :: Lf) /\ Ut F5 F6 /\ FI f [] [(0, (pt bp0 0)), (3, (pt b21 0)), (7, (vi j99.1)), (8, (vi s53.2.1))] /\ LC j99.2.2.2.2.1.length nj99_4 /\ SlA AK F6 aj99_4 j99.2.2.2.2.1 /\ A4 Az AH F6 mb0_4 j99.2.2.2.2.2.1 ej99_5 /\ A4 AK Au F6 mb0_5 j99.2.2.2.2.2.2 ej99_6) ?_ ?_
       ·refine Cd hj105 (fun hb107 h108 => ?_) (fun hb107 h109 => ?_)
        ·obtain ⟨j115, hj121, h122⟩ := bind_some h108
         refine RD 9 9 [(sb b89 (FT r79.2.2.1) 150), (sb b86 (Ai r79.2.1) 143), (sb b21 (Ai x1) 143)] [] hs95 (fun f w => ∃ (F7 : Mem) (aj115_4 : UP) (nj115_4 : Nat) (ej115_5 : Option Nat × Obj) (ej115_6 : Option Nat × Obj), HS wb Fb w F7 ((sb bp0 #[(.bool j115.2.1), (.bool j115.2.2.1), (.bool j115.2.2.2.1), (.slice aj115_4 j115.2.2.2.2.1.length nj115_4), (.map (some mb0_4)), (.map (some mb0_5))] 148) :: ej115_5 :: ej115_6 :: (sb b21 (Ai x1) 143) :: Lf) /\ Ut F5 F7 /\ FI f [] [(0, (pt bp0 0)), (3, (pt b21 0)), (7, (vi j115.1)), (8, (vi s53.2.1))] /\ LC j115.2.2.2.2.1.length nj115_4 /\ SlA AK F7 aj115_4 j115.2.2.2.2.1 /\ A4 Az AH F7 mb0_4 j115.2.2.2.2.2.1 ej115_5 /\ A4 AK Au F7 mb0_5 j115.2.2.2.2.2.2 ej115_6) (fun wd110 hw111 => ?_) ?_
         ·refine Dv [0, 1, 3] ?_
          refine Dl 4 (fun _ hq => (hq.1.2 1 _ _ rfl)) <| D1 2 ?_
          obtain ⟨r123, hr124, h125⟩ := bind_some hj121
          refine DCl J5 hw111 (LB N wd110 F5 hw111.pers s53.2.1 _ hr124) ?_
          rintro _ F8 w127 hs128 le129 rfl
          refine D1 5 ?_
          have hs131 := hs128.pk5.pk2.pk2.pk5.pk5
          obtain ⟨r132, hr133, h134⟩ := bind_some h125
          refine DCB B9 (hsR109 (hG.mono ((((le28.t le41).trans le56).trans le84).trans le129)) bp0 r79.1 ar79_0_3 nr79_0_3 mb0_4 er79_0_4 mb0_5 er79_0_5 hbr79_0_3 (Uw hsr79_0_3 le129) (hrr79_0_4.mono le129) (hrr79_0_5.mono le129) r79.2.1 hs131.pk5 _ hr133) ?_
          rintro _ F9 w135 _ hs136 le137 ⟨ar132_0_3, nr132_0_3, er132_0_4, er132_0_5, rfl, rfl, hbr132_0_3, hsr132_0_3, hrr132_0_4, hrr132_0_5⟩
          refine ⟨A5 hs136 (le129.t le137) (by simp) (zdT (by kernel_rfl)), ?_⟩
          refine Dv [6, 7, 8] ?_
          obtain rfl := Aa h134
          exact UG (by kernel_rfl) ⟨F9, ar132_0_3, nr132_0_3, er132_0_4, er132_0_5, hs136.dr3.dr3, (le129.t le137), fI, hbr132_0_3, hsr132_0_3, hrr132_0_4, hrr132_0_5⟩
         ·rintro f w112 ⟨F7, aj115_4, nj115_4, ej115_5, ej115_6, hs113, le114, ⟨_, rfl⟩, hbj115_4, hsj115_4, hrj115_5, hrj115_6⟩
          obtain rfl := Aa h122
          exact .inl ⟨rfl, F7, aj115_4, nj115_4, ej115_5, ej115_6, hs113, le114, fI, hbj115_4, hsj115_4, hrj115_5, hrj115_6⟩
        ·refine Sc ?_
         obtain rfl := Aa h109
         exact .inl ⟨rfl, F5, ar79_0_3, nr79_0_3, er79_0_4, er79_0_5, hs95.dr0.dr0, (Uu _), fI, hbr79_0_3, hsr79_0_3, hrr79_0_4, hrr79_0_5⟩
       ·rintro f w96 ⟨F6, aj99_4, nj99_4, ej99_5, ej99_6, hs97, le98, ⟨_, rfl⟩, hbj99_4, hsj99_4, hrj99_5, hrj99_6⟩
        refine Aq <| Ab <| Rg [0, 1, 2] <| Vs 3 <| Up ?_
        have hn139 := AJ h106 hnx75
        exact ⟨m72, Nat.lt_succ_self _, (j99.1, (W64 (s53.2.1 + 1)), j99.2.1, j99.2.2.1, j99.2.2.2.1, j99.2.2.2.2.1, j99.2.2.2.2.2.1, j99.2.2.2.2.2.2), F6, aj99_4, nj99_4, ej99_5, ej99_6, hn139, hs97.pk2.pk2.pk2.pk3, ((le56.t le84).trans le98), fI, hbj99_4, hsj99_4, hrj99_5, hrj99_6⟩
      ·refine Ex ?_
       refine Ao <| Ao <| Ay rfl ?_
       have ho140 := AE h78 hnx75
       exact .inl ⟨rfl, (s53.1, s53.2.1, s53.2.2.1, s53.2.2.2.1, s53.2.2.2.2.1, s53.2.2.2.2.2.1, s53.2.2.2.2.2.2.1, s53.2.2.2.2.2.2.2), F3, as53_5, ns53_5, es53_6, es53_7, ho140, hs55, le56, fI, hbs53_5, hss53_5, hrs53_6, hrs53_7⟩
     ·rintro f w63 ⟨s62, F4, as62_5, ns62_5, es62_6, es62_7, rfl, hs64, le65, ⟨_, rfl⟩, hbs62_5, hss62_5, hrs62_6, hrs62_7⟩
      have h141 := Bc h52
      refine Ab <| Sq ?_
      obtain ⟨j147, hj150, h151⟩ := bind_some h141
      refine RD 7 7 [(sb b21 (Ai x1) 143), (sb bp0 #[(.bool s62.2.2.1), (.bool s62.2.2.2.1), (.bool s62.2.2.2.2.1), (.slice as62_5 s62.2.2.2.2.2.1.length ns62_5), (.map (some mb0_4)), (.map (some mb0_5))] 148), es62_7] [] hs64 (fun f w => ∃ (F10 : Mem) (ej147_0 : Option Nat × Obj), HS wb Fb w F10 ((sb bp0 #[(.bool s62.2.2.1), (.bool s62.2.2.2.1), (.bool s62.2.2.2.2.1), (.slice as62_5 s62.2.2.2.2.2.1.length ns62_5), (.map (some mb0_4)), (.map (some mb0_5))] 148) :: ej147_0 :: es62_7 :: Lf) /\ Ut F4 F10 /\ FI f [] [(7, (vi s62.1))] /\ A4 Az AH F10 mb0_4 j147 ej147_0) (fun wd142 hw143 => ?_) ?_
      ·refine Dv [0, 1, 2] ?_
       refine Dl 3 (fun _ hq => (hq.1.2 1 _ _ rfl)) <| Dl 4 (fun _ hq => (hq.1.2 0 _ _ rfl)) <| Dv [5] <| D1 6 <| Aw.mapPut (l' := [true, true, true, true, true, true, true]) (zd := true) (by kernel_rfl) (by kernel_rfl) Tg (ty := 0) (g := none) (mt := 145) (k := 143) (vt := 3) (m := (.tmp 60)) (x := (.tmp 61)) (y := (.tmp 62)) (b := mb0_4) (kx := x1) (u := s62.1) (kv := (.agg (Ai x1))) (v := (vi s62.1)) (K := Az) (T := AH) (by kernel_rfl) rfl rfl rfl rfl ⟨_, rfl, rfl⟩ ⟨_, rfl, rfl⟩ (by kernel_rfl) hw143 (q := 2) rfl hrs62_6 (Uu _) (fun _ => by simp) (fun e => by cases e) (fun e152 w153 (hs154 : HS wb Fb w153 F4 ((sb b21 (Ai x1) 143) :: (sb bp0 #[(.bool s62.2.2.1), (.bool s62.2.2.2.1), (.bool s62.2.2.2.2.1), (.slice as62_5 s62.2.2.2.2.2.1.length ns62_5), (.map (some mb0_4)), (.map (some mb0_5))] 148) :: e152 :: es62_7 :: Lf)) hr155 => ?_)
       obtain rfl := Aa hj150
       exact UG (by kernel_rfl) ⟨F4, e152, hs154.dr0, (Uu _), fI, hr155⟩
      ·rintro f w144 ⟨F10, ej147_0, hs145, le146, ⟨_, rfl⟩, hrj147_0⟩
       refine Ab <| Sq (Rg [0, 1] ?_)
       refine Vs 2 <| Nt <| Rt ?_
       obtain rfl := Aa h151
       exact ReB [(vi s62.1)] hs145 (((le28.t le41).trans le65).trans le146) ⟨as62_5, ns62_5, ej147_0, es62_7, rfl, rfl, hbs62_5, (Uw hss62_5 le146), hrj147_0, (hrs62_7.mono le146)⟩
structure TQ where
 q109 : Al -> An -> Option (Al × Int)
def Ob (N : Nat) : Nat -> TQ
 | 0 => ⟨fun _ _ => none⟩
 | k + 1 => ⟨EU N (Ob N k).q109⟩
theorem QE (N : Nat) : ∀ k, OI (Ob N k).q109 := by
 intro k
 induction k with
 | zero => unfold OI; intros; rename_i h; cases h
 | succ k ih => exact @Ij N (Ob N k).q109 ih
def CN (N : Nat) (x0 : Al) (x1 : An) : Option (Al × Int) := (Ob N N).q109 x0 x1
theorem Df (N : Nat) {wb w0 : World} {Fb F0 : Mem} {Lf : Own} (hG : Bm F0) (bp0 : Nat) (x0 : Al) (a0_3 : UP) (n0_3 : Nat) (mb0_4 : Nat) (e0_4 : Option Nat × Obj) (mb0_5 : Nat) (e0_5 : Option Nat × Obj) (hb0_3 : LC x0.lines_.length n0_3) (hs0_3 : SlA AK F0 a0_3 x0.lines_) (hr0_4 : A4 Az AH F0 mb0_4 x0.known_ e0_4) (hr0_5 : A4 AK Au F0 mb0_5 x0.read_ e0_5) (x1 : An) (hs0 : HS wb Fb w0 F0 ((some bp0, (.cells #[(.bool x0.o_.Report), (.bool x0.o_.Serial), (.bool x0.o_.Zone), (.slice a0_3 x0.lines_.length n0_3), (.map (some mb0_4)), (.map (some mb0_5))] 148 (0, 0))) :: e0_4 :: e0_5 :: Lf)) (r : (Al × Int)) (h : CN N x0 x1 = some r) :
  Calls Tryz.prog 109 ([(.pointer (some ⟨bp0, 0, none⟩)), (.agg #[(.int .i64 x1.at_), (.int .i64 x1.stage_), (.int .i64 x1.num_), (.int .i64 x1.minute_)])] : List Value).toArray w0 (Es wb Fb F0 fun F' v L' => ∃ (aq0_3 : UP) (nq0_3 : Nat) (eq0_4 : Option Nat × Obj) (eq0_5 : Option Nat × Obj), v = (.int .i64 r.2) /\ L' = (some bp0, (.cells #[(.bool r.1.o_.Report), (.bool r.1.o_.Serial), (.bool r.1.o_.Zone), (.slice aq0_3 r.1.lines_.length nq0_3), (.map (some mb0_4)), (.map (some mb0_5))] 148 (0, 0))) :: eq0_4 :: eq0_5 :: Lf /\ LC r.1.lines_.length nq0_3 /\ SlA AK F' aq0_3 r.1.lines_ /\ A4 Az AH F' mb0_4 r.1.known_ eq0_4 /\ A4 AK Au F' mb0_5 r.1.read_ eq0_5) := (QE N N) hG bp0 x0 a0_3 n0_3 mb0_4 e0_4 mb0_5 e0_5 hb0_3 hs0_3 hr0_4 hr0_5 x1 hs0 r h
def HJ (N : Nat) (x0 : Ac) (x1 : UO) (m33 : Al) (r39 : An) (r47 : (Al × Int)) (r57 : An) (s75 : (List Eh × Bool × Bool × Bool × List UO × Int × Int × Int × Int × List (An × Int) × List (UO × As))) : (List Eh × Int × Bool × Bool × Bool × List UO × Int × Int × Int × Int × List (An × Int) × List (UO × As)) -> Option (Ba (UO × (List Eh) × Int × Int) (List Eh × Int × Bool × Bool × Bool × List UO × Int × Int × Int × Int × List (An × Int) × List (UO × As))) := fun s118 =>
 ((Em N ({ o_ := ({ Report := s118.2.2.1, Serial := s118.2.2.2.1, Zone := s118.2.2.2.2.1 } : Ac), lines_ := s118.2.2.2.2.2.1, known_ := s118.2.2.2.2.2.2.2.2.2.2.1, read_ := s118.2.2.2.2.2.2.2.2.2.2.2 } : Al) ({ at_ := s118.2.2.2.2.2.2.1, stage_ := s118.2.2.2.2.2.2.2.1, num_ := s118.2.2.2.2.2.2.2.2.1, minute_ := s118.2.2.2.2.2.2.2.2.2.1 } : An) s118.2.1).bind fun r146 => ((bif r146.2.2.2 then ((Kx N s118.2.1).bind fun r184 => ((CN N r146.1 r146.2.1).bind fun r193 => ((CN N r193.1 ({ at_ := s118.2.2.2.2.2.2.1, stage_ := s118.2.2.2.2.2.2.2.1, num_ := s118.2.2.2.2.2.2.2.2.1, minute_ := s118.2.2.2.2.2.2.2.2.2.1 } : An)).bind fun r200 => some (((W64 (r184 + r193.2)) == r200.2), r200.1.o_.Report, r200.1.o_.Serial, r200.1.o_.Zone, r200.1.lines_, r200.1.known_, r200.1.read_)))) else some (false, r146.1.o_.Report, r146.1.o_.Serial, r146.1.o_.Zone, r146.1.lines_, r146.1.known_, r146.1.read_)).bind fun j168 => (bif j168.1 then ((DR s118.1 [r146.2.2.1]).bind fun r216 => some (.done (r216, s118.2.1, j168.2.1, j168.2.2.1, j168.2.2.2.1, j168.2.2.2.2.1, r146.2.1.at_, r146.2.1.stage_, r146.2.1.num_, r146.2.1.minute_, j168.2.2.2.2.2.1, j168.2.2.2.2.2.2))) else some (.next (s118.1, (W64 (s118.2.1 + 1)), j168.2.1, j168.2.2.1, j168.2.2.2.1, j168.2.2.2.2.1, s118.2.2.2.2.2.2.1, s118.2.2.2.2.2.2.2.1, s118.2.2.2.2.2.2.2.2.1, s118.2.2.2.2.2.2.2.2.2.1, j168.2.2.2.2.2.1, j168.2.2.2.2.2.2)))))
def HK (N : Nat) (x0 : Ac) (x1 : UO) (m33 : Al) (r39 : An) (r47 : (Al × Int)) (r57 : An) : (List Eh × Bool × Bool × Bool × List UO × Int × Int × Int × Int × List (An × Int) × List (UO × As)) -> Option (Ba (UO × (List Eh) × Int × Int) (List Eh × Bool × Bool × Bool × List UO × Int × Int × Int × Int × List (An × Int) × List (UO × As))) := fun s75 =>
 (bif ((decide (s75.2.2.2.2.2.1 < (s75.2.2.2.2.1.length : Int))) || (decide (s75.2.2.2.2.2.2.1 < 6))) then ((AO (HJ N x0 x1 m33 r39 r47 r57 s75) N (s75.1, 1, s75.2.1, s75.2.2.1, s75.2.2.2.1, s75.2.2.2.2.1, s75.2.2.2.2.2.1, s75.2.2.2.2.2.2.1, s75.2.2.2.2.2.2.2.1, s75.2.2.2.2.2.2.2.2.1, s75.2.2.2.2.2.2.2.2.2.1, s75.2.2.2.2.2.2.2.2.2.2)).bind fun o => o.k (fun r => some (.ret r)) (fun s129 => some (.next (s129.1, s129.2.2.1, s129.2.2.2.1, s129.2.2.2.2.1, s129.2.2.2.2.2.1, s129.2.2.2.2.2.2.1, s129.2.2.2.2.2.2.2.1, s129.2.2.2.2.2.2.2.2.1, s129.2.2.2.2.2.2.2.2.2.1, s129.2.2.2.2.2.2.2.2.2.2.1, s129.2.2.2.2.2.2.2.2.2.2.2)))) else some (.done (s75.1, s75.2.1, s75.2.2.1, s75.2.2.2.1, s75.2.2.2.2.1, s75.2.2.2.2.2.1, s75.2.2.2.2.2.2.1, s75.2.2.2.2.2.2.2.1, s75.2.2.2.2.2.2.2.2.1, s75.2.2.2.2.2.2.2.2.2.1, s75.2.2.2.2.2.2.2.2.2.2)))
def Lp (N : Nat) (x0 : Ac) (x1 : UO) : Option (UO × (List Eh) × Int × Int) :=
 ((GX N ({ Report := x0.Report, Serial := x0.Serial, Zone := x0.Zone } : Ac) x1).bind fun r24 => osk r24 (some (([] : UO), ([] : List Eh), 0, 2)) (fun m33 => ((Ji N ).bind fun r39 => ((CN N m33 r39).bind fun r47 => (bif (decide (r47.2 >= 1099511627776)) then none else ((Ji N ).bind fun r57 => ((AO (HK N x0 x1 m33 r39 r47 r57) N (([] : List Eh), r47.1.o_.Report, r47.1.o_.Serial, r47.1.o_.Zone, r47.1.lines_, r57.at_, r57.stage_, r57.num_, r57.minute_, r47.1.known_, r47.1.read_)).bind fun o => o.k (fun r => some r) (fun s85 => ((Lr N x1 s85.1).bind fun r245 => some (r245.1, s85.1, r47.2, r245.2))))))))))
theorem MJ : Af Tryz.prog 36 := fun _ _ => by kernel_rfl
theorem Nq (N : Nat) (w0 : World) (F0 : Mem) (hF : UQ w0 F0) (hG : Bm F0) (x0 : Ac) (x1 : UO) (r : (UO × (List Eh) × Int × Int)) (h : Lp N x0 x1 = some r) :
  Calls Tryz.prog 36 ([(.agg (Ag x0)), (sv x1)] : List Value).toArray w0 (AA w0 F0 fun F' v => ∃ (aq1_0 : UP) (nq1_0 : Nat), v = (.tuple #[(sv r.1), (.slice aq1_0 r.2.1.length nq1_0), (vi r.2.2.1), (vi r.2.2.2)]) /\ LC r.2.1.length nq1_0 /\ SlA JC F' aq1_0 r.2.1) := by
 have hs0 := Uv hF
 refine Go 85 Tryz.func36 <| Sq (Rg (rG 5) ?_)
 refine Bx' 23 (Ag x0) hs0 (fun b21 w22 hs23 => ?_)
 refine Vs 4 <| Nss (Rg (rG 8) ?_)
 refine Ld hs23.at0 <| Vs 1 ?_
 obtain ⟨r24, hr25, h26⟩ := bind_some h
 refine RWP.callO (dst := (some 21)) (ty := 139) (g := none) (by kernel_rfl) rfl (f0 := (.func 108)) (aos := #[(.tmp 19), (.tmp 20)]) (ats := #[23, 9]) (fid := 108) (first := #[]) (cap := #[]) (args := [(.agg (Ag x0)), (sv x1)]) rfl Hj rfl hs23 (Ig N w22 F0 hs23.pers hG (({ Report := x0.Report, Serial := x0.Serial, Zone := x0.Zone } : Ac)) x1 _ hr25) ?_
 rintro v27 F1 w28 L32 hs29 le30 hp31
 rcases r24 with _ | m33
 ·obtain ⟨rfl, rfl⟩ := FB hp31
  have h34 := Td h26
  have hs35 : HS w0 F0 w28 F1 [(sb b21 (Ag x0) 23)] := hs29
  refine Vs 5 <| Nss <| Sq (Rg [0, 1] ?_)
  refine Vs 2 <| Nt <| C1 (rfl : true = true) <| Sq (Rg (rG 5) ?_)
  refine Vs 5 <| Nt <| Rt <| Ae ?_
  obtain rfl := Aa h34
  exact Re [(sv (([] : UO))), (.slice none ([] : List Eh).length 0), (vi 0), (vi 2)] hs35 ⟨none, 0, rfl, Ux, (.inl rfl)⟩
 ·obtain ⟨b36, am33_3, nm33_3, mbm33_4, em33_4, mbm33_5, em33_5, rfl, rfl, hbm33_3, hsm33_3, hrm33_4, hrm33_5⟩ := FA hp31
  have h37 := Tc h26
  have hs38 : HS w0 F0 w28 F1 [(sb b36 #[(.bool m33.o_.Report), (.bool m33.o_.Serial), (.bool m33.o_.Zone), (.slice am33_3 m33.lines_.length nm33_3), (.map (some mbm33_4)), (.map (some mbm33_5))] 148), em33_4, em33_5, (sb b21 (Ag x0) 23)] := hs29
  refine Vs 5 <| Nss <| Sq (Rg [0, 1] ?_)
  refine Vs 2 <| Nt <| C0 (rfl : false = false) <| Sc <| Ab <| Sq (Rg (rG 4) ?_)
  refine Vs 1 ?_
  obtain ⟨r39, hr40, h41⟩ := bind_some h37
  refine Cl' I3 hs38 (Kg N w28 F1 hs38.pers  _ hr40) ?_
  rintro _ F2 w43 hs44 le45 rfl
  obtain ⟨r47, hr48, h49⟩ := bind_some h41
  refine CB B9 (Df N (hG.mono (le30.t le45)) b36 m33 am33_3 nm33_3 mbm33_4 em33_4 mbm33_5 em33_5 hbm33_3 (Uw hsm33_3 le45) (hrm33_4.mono le45) (hrm33_5.mono le45) r39 hs44 _ hr48) ?_
  rintro _ F3 w50 _ hs51 le52 ⟨ar47_0_3, nr47_0_3, er47_0_4, er47_0_5, rfl, rfl, hbr47_0_3, hsr47_0_3, hrr47_0_4, hrr47_0_5⟩
  refine Vs 1 <| Nss <| Sq (Rg [0, 1] ?_)
  refine Vs 2 <| Nt <| Cd h49 (fun hb54 h55 => ?_) (fun hb54 h56 => ?_)
  ·cases h55
  ·refine Sc ?_
   refine Ab <| Sq (Rg [0] ?_)
   refine Vs 1 <| Nss <| Sq (Rg [0, 1, 2] ?_)
   obtain ⟨r57, hr58, h59⟩ := bind_some h56
   refine Cl' I3 hs51 (Kg N w50 F3 hs51.pers  _ hr58) ?_
   rintro _ F4 w61 hs62 le63 rfl
   refine Al' 143 #[(vi 0), (vi 0), (vi 0), (vi 0)] hs62 (fun b65 w66 hs67 => ?_)
   refine St0 (Ai r57) hs67 (fun w68 hs69 => ?_)
   refine Nt ?_
   have hs70 := hs69.dr4.dummy (oc #[] 0)
   obtain ⟨o72, ho73, h74⟩ := bind_some h59
   refine UA (fun f w => ∃ (s85 : (List Eh × Bool × Bool × Bool × List UO × Int × Int × Int × Int × List (An × Int) × List (UO × As))) (F6 : Mem) (as85_0 : UP) (ns85_0 : Nat) (es85_0 : Option Nat × Obj), o72 = .done s85 /\ HS w0 F0 w F6 [es85_0] /\ Ut F4 F6 /\ FI f [] [(1, (sv x1)), (10, (vi r47.2)), (11, (.slice as85_0 s85.1.length ns85_0))] /\ Av JC 150 F6 as85_0 ns85_0 s85.1 es85_0) ?_ ?_
   ·refine Bk ?_
    refine Us (by kernel_rfl) (fun m f w => ∃ (s75 : (List Eh × Bool × Bool × Bool × List UO × Int × Int × Int × Int × List (An × Int) × List (UO × As))) (F5 : Mem) (b65 : Nat) (as75_4 : UP) (ns75_4 : Nat) (es75_9 : Option Nat × Obj) (es75_10 : Option Nat × Obj) (as75_0 : UP) (ns75_0 : Nat) (es75_0 : Option Nat × Obj), AO (HK N x0 x1 m33 r39 r47 r57) m s75 = some o72 /\ HS w0 F0 w F5 [es75_0, (sb b65 #[(vi s75.2.2.2.2.2.1), (vi s75.2.2.2.2.2.2.1), (vi s75.2.2.2.2.2.2.2.1), (vi s75.2.2.2.2.2.2.2.2.1)] 143), (sb b36 #[(.bool s75.2.1), (.bool s75.2.2.1), (.bool s75.2.2.2.1), (.slice as75_4 s75.2.2.2.2.1.length ns75_4), (.map (some mbm33_4)), (.map (some mbm33_5))] 148), es75_9, es75_10] /\ Ut F4 F5 /\ FI f [] [(1, (sv x1)), (8, (pt b36 0)), (10, (vi r47.2)), (11, (.slice as75_0 s75.1.length ns75_0)), (12, (pt b65 0))] /\ LC s75.2.2.2.2.1.length ns75_4 /\ SlA AK F5 as75_4 s75.2.2.2.2.1 /\ A4 Az AH F5 mbm33_4 s75.2.2.2.2.2.2.2.2.2.1 es75_9 /\ A4 AK Au F5 mbm33_5 s75.2.2.2.2.2.2.2.2.2.2 es75_10 /\ Av JC 150 F5 as75_0 ns75_0 s75.1 es75_0) N ⟨(([] : List Eh), r47.1.o_.Report, r47.1.o_.Serial, r47.1.o_.Zone, r47.1.lines_, r57.at_, r57.stage_, r57.num_, r57.minute_, r47.1.known_, r47.1.read_), F4, b65, ar47_0_3, nr47_0_3, er47_0_4, er47_0_5, none, 0, (none, .cells #[] 0 (0, 0)), ho73, hs70, (Uu _), fI, hbr47_0_3, (Uw hsr47_0_3 le63), (hrr47_0_4.mono le63), (hrr47_0_5.mono le63), (UI JC 150 F4 _)⟩ ?_
    rintro m93 f w76 ⟨s75, F5, b65, as75_4, ns75_4, es75_9, es75_10, as75_0, ns75_0, es75_0, hit94, hs77, le78, ⟨_, rfl⟩, hbs75_4, hss75_4, hrs75_9, hrs75_10, hrs75_0⟩
    obtain ⟨m95, fl96, rfl, hb97, hnx98⟩ := AD hit94
    refine Sq <| Sq <| RD 13 13 [es75_0, (sb b65 #[(vi s75.2.2.2.2.2.1), (vi s75.2.2.2.2.2.2.1), (vi s75.2.2.2.2.2.2.2.1), (vi s75.2.2.2.2.2.2.2.2.1)] 143), (sb b36 #[(.bool s75.2.1), (.bool s75.2.2.1), (.bool s75.2.2.2.1), (.slice as75_4 s75.2.2.2.2.1.length ns75_4), (.map (some mbm33_4)), (.map (some mbm33_5))] 148), es75_9, es75_10] [] hs77 (fun f w => ∃ (F7 : Mem), HS w0 F0 w F7 [es75_0, (sb b65 #[(vi s75.2.2.2.2.2.1), (vi s75.2.2.2.2.2.2.1), (vi s75.2.2.2.2.2.2.2.1), (vi s75.2.2.2.2.2.2.2.2.1)] 143), (sb b36 #[(.bool s75.2.1), (.bool s75.2.2.1), (.bool s75.2.2.2.1), (.slice as75_4 s75.2.2.2.2.1.length ns75_4), (.map (some mbm33_4)), (.map (some mbm33_5))] 148), es75_9, es75_10] /\ Ut F5 F7 /\ FI f [] [(1, (sv x1)), (8, (pt b36 0)), (10, (vi r47.2)), (11, (.slice as75_0 s75.1.length ns75_0)), (12, (pt b65 0)), (45, (.bool ((decide (s75.2.2.2.2.2.1 < (s75.2.2.2.2.1.length : Int))) || (decide (s75.2.2.2.2.2.2.1 < 6)))))]) (fun wd99 hw100 => ?_) ?_
    ·refine Dv [0] ?_
     refine Dl 1 (fun _ hq => (hq.1.2 1 _ _ rfl)) <| Dv [2, 3, 4] <| Dl 5 (fun _ hq => (hq.1.2 2 _ _ rfl)) <| Dv [6, 7, 8] <| DWP.split (decide (s75.2.2.2.2.2.1 < (s75.2.2.2.2.1.length : Int))) (fun hb111 => ?_) (fun hb111 => ?_)
     ·refine Dk [(9, 42), (10, 43), (11, 44)] 8 false 41 hb111 ?_
      refine Dt 12 45 4 _ (fun _ hq => p1 41 (.const (.bool true)) (.tmp 44) (.bool true) hb111) ?_
      exact UG (by kernel_rfl) ⟨F5, hw100, (Uu _), (fJ ⟨rfl, rfl, rfl, rfl, rfl, (congrArg Value.bool (FD hb111 rfl)), trivial⟩)⟩
     ·refine Dg 9 42 0 (pt b65 1) 8 false 41 hb111 (fun _ hq => fa 143 12 1 1 1 b65 0 1) ?_
      refine Dg 10 43 3 _ 8 false 41 hb111 (fun _ hq => ld 3 42 b65 1 false 1 (vi s75.2.2.2.2.2.2.1) (hq.1.2 1 _ _ rfl)) <| Dg 11 44 4 (.bool (decide (s75.2.2.2.2.2.2.1 < 6))) 8 false 41 hb111 (fun _ hq => GT (t := 3) (t' := 3) (x := (.tmp 43)) (y := (.const (vi 6))) (k := .i64) (a := s75.2.2.2.2.2.2.1) (b := 6) rfl rfl) <| Dt 12 45 4 _ (fun _ hq => p0 41 (.const (.bool true)) (.tmp 44) (.bool (decide (s75.2.2.2.2.2.2.1 < 6))) hb111) ?_
      exact UG (by kernel_rfl) ⟨F5, hw100, (Uu _), (fJ ⟨rfl, rfl, rfl, rfl, rfl, (congrArg Value.bool (Cn hb111 rfl)), trivial⟩)⟩
    ·rintro f w101 ⟨F7, hs102, le103, ⟨_, rfl⟩⟩
     refine Ab <| Cd hb97 (fun hb112 h113 => ?_) (fun hb112 h114 => ?_)
     ·refine Sc ?_
      refine Ab <| Sq <| Bk <| Sq (Rg [0] ?_)
      refine Vs 1 <| Nt ?_
      obtain ⟨o115, ho116, h117⟩ := bind_some h113
      refine UA (fun f w => ∃ (s129 : (List Eh × Int × Bool × Bool × Bool × List UO × Int × Int × Int × Int × List (An × Int) × List (UO × As))) (F9 : Mem) (as129_5 : UP) (ns129_5 : Nat) (es129_10 : Option Nat × Obj) (es129_11 : Option Nat × Obj) (as129_0 : UP) (ns129_0 : Nat) (es129_0 : Option Nat × Obj), o115 = .done s129 /\ HS w0 F0 w F9 [es129_0, (sb b65 #[(vi s129.2.2.2.2.2.2.1), (vi s129.2.2.2.2.2.2.2.1), (vi s129.2.2.2.2.2.2.2.2.1), (vi s129.2.2.2.2.2.2.2.2.2.1)] 143), (sb b36 #[(.bool s129.2.2.1), (.bool s129.2.2.2.1), (.bool s129.2.2.2.2.1), (.slice as129_5 s129.2.2.2.2.2.1.length ns129_5), (.map (some mbm33_4)), (.map (some mbm33_5))] 148), es129_10, es129_11] /\ Ut F7 F9 /\ FI f [] [(1, (sv x1)), (8, (pt b36 0)), (10, (vi r47.2)), (11, (.slice as129_0 s129.1.length ns129_0)), (12, (pt b65 0))] /\ LC s129.2.2.2.2.2.1.length ns129_5 /\ SlA AK F9 as129_5 s129.2.2.2.2.2.1 /\ A4 Az AH F9 mbm33_4 s129.2.2.2.2.2.2.2.2.2.2.1 es129_10 /\ A4 AK Au F9 mbm33_5 s129.2.2.2.2.2.2.2.2.2.2.2 es129_11 /\ Av JC 150 F9 as129_0 ns129_0 s129.1 es129_0) ?_ ?_
      ·refine Bk ?_
       refine Us (by kernel_rfl) (fun m f w => ∃ (s118 : (List Eh × Int × Bool × Bool × Bool × List UO × Int × Int × Int × Int × List (An × Int) × List (UO × As))) (F8 : Mem) (as118_5 : UP) (ns118_5 : Nat) (es118_10 : Option Nat × Obj) (es118_11 : Option Nat × Obj) (as118_0 : UP) (ns118_0 : Nat) (es118_0 : Option Nat × Obj), AO (HJ N x0 x1 m33 r39 r47 r57 s75) m s118 = some o115 /\ HS w0 F0 w F8 [es118_0, (sb b65 #[(vi s118.2.2.2.2.2.2.1), (vi s118.2.2.2.2.2.2.2.1), (vi s118.2.2.2.2.2.2.2.2.1), (vi s118.2.2.2.2.2.2.2.2.2.1)] 143), (sb b36 #[(.bool s118.2.2.1), (.bool s118.2.2.2.1), (.bool s118.2.2.2.2.1), (.slice as118_5 s118.2.2.2.2.2.1.length ns118_5), (.map (some mbm33_4)), (.map (some mbm33_5))] 148), es118_10, es118_11] /\ Ut F7 F8 /\ FI f [] [(1, (sv x1)), (8, (pt b36 0)), (10, (vi r47.2)), (11, (.slice as118_0 s118.1.length ns118_0)), (12, (pt b65 0)), (13, (vi s118.2.1))] /\ LC s118.2.2.2.2.2.1.length ns118_5 /\ SlA AK F8 as118_5 s118.2.2.2.2.2.1 /\ A4 Az AH F8 mbm33_4 s118.2.2.2.2.2.2.2.2.2.2.1 es118_10 /\ A4 AK Au F8 mbm33_5 s118.2.2.2.2.2.2.2.2.2.2.2 es118_11 /\ Av JC 150 F8 as118_0 ns118_0 s118.1 es118_0) N ⟨(s75.1, 1, s75.2.1, s75.2.2.1, s75.2.2.2.1, s75.2.2.2.2.1, s75.2.2.2.2.2.1, s75.2.2.2.2.2.2.1, s75.2.2.2.2.2.2.2.1, s75.2.2.2.2.2.2.2.2.1, s75.2.2.2.2.2.2.2.2.2.1, s75.2.2.2.2.2.2.2.2.2.2), F7, as75_4, ns75_4, es75_9, es75_10, as75_0, ns75_0, es75_0, ho116, hs102, (Uu _), fI, hbs75_4, (Uw hss75_4 le103), (hrs75_9.mono le103), (hrs75_10.mono le103), (hrs75_0.mono le103)⟩ ?_
       rintro m139 f w119 ⟨s118, F8, as118_5, ns118_5, es118_10, es118_11, as118_0, ns118_0, es118_0, hit140, hs120, le121, ⟨_, rfl⟩, hbs118_5, hss118_5, hrs118_10, hrs118_11, hrs118_0⟩
       obtain ⟨m141, fl142, rfl, hb143, hnx144⟩ := AD hit140
       refine Sq <| Bk <| Sq (Rg (rG 13) ?_)
       refine Vs 1 <| Ld hs120.at1 <| Vs 1 ?_
       have hs145 := hs120.pk1.pk1.pk4.pk4.pk4
       obtain ⟨r146, hr147, h148⟩ := bind_some hb143
       refine CB EY (Ft N (hG.mono ((((((le30.t le45).trans le52).trans le63).trans le78).trans le103).trans le121)) b36 (({ o_ := ({ Report := s118.2.2.1, Serial := s118.2.2.2.1, Zone := s118.2.2.2.2.1 } : Ac), lines_ := s118.2.2.2.2.2.1, known_ := s118.2.2.2.2.2.2.2.2.2.2.1, read_ := s118.2.2.2.2.2.2.2.2.2.2.2 } : Al)) as118_5 ns118_5 mbm33_4 es118_10 mbm33_5 es118_11 hbs118_5 hss118_5 hrs118_10 hrs118_11 (({ at_ := s118.2.2.2.2.2.2.1, stage_ := s118.2.2.2.2.2.2.2.1, num_ := s118.2.2.2.2.2.2.2.2.1, minute_ := s118.2.2.2.2.2.2.2.2.2.1 } : An)) s118.2.1 hs145 _ hr147) ?_
       rintro _ F10 w149 _ hs150 le151 ⟨ar146_0_3, nr146_0_3, er146_0_4, er146_0_5, rfl, rfl, hbr146_0_3, hsr146_0_3, hrr146_0_4, hrr146_0_5⟩
       refine Vs 4 <| Al' 143 #[(vi 0), (vi 0), (vi 0), (vi 0)] hs150 (fun b153 w154 hs155 => ?_)
       refine Al' 150 #[(vi 0), (vi 0), (sv (([] : UO)))] hs155 (fun b156 w157 hs158 => ?_)
       refine St1 (Ai r146.2.1) hs158 (fun w159 hs160 => ?_)
       refine St0 (FT r146.2.2.1) hs160 (fun w161 hs162 => ?_)
       refine Vs 1 <| Nss ?_
       obtain ⟨j168, hj179, h180⟩ := bind_some h148
       refine RD 13 13 [(sb b156 (FT r146.2.2.1) 150), (sb b153 (Ai r146.2.1) 143), es118_0, (sb b65 #[(vi s118.2.2.2.2.2.2.1), (vi s118.2.2.2.2.2.2.2.1), (vi s118.2.2.2.2.2.2.2.2.1), (vi s118.2.2.2.2.2.2.2.2.2.1)] 143)] [] hs162 (fun f w => ∃ (F11 : Mem) (aj168_4 : UP) (nj168_4 : Nat) (ej168_5 : Option Nat × Obj) (ej168_6 : Option Nat × Obj), HS w0 F0 w F11 [(sb b156 (FT r146.2.2.1) 150), (sb b153 (Ai r146.2.1) 143), (sb b36 #[(.bool j168.2.1), (.bool j168.2.2.1), (.bool j168.2.2.2.1), (.slice aj168_4 j168.2.2.2.2.1.length nj168_4), (.map (some mbm33_4)), (.map (some mbm33_5))] 148), ej168_5, ej168_6, es118_0, (sb b65 #[(vi s118.2.2.2.2.2.2.1), (vi s118.2.2.2.2.2.2.2.1), (vi s118.2.2.2.2.2.2.2.2.1), (vi s118.2.2.2.2.2.2.2.2.2.1)] 143)] /\ Ut F10 F11 /\ FI f [] [(1, (sv x1)), (8, (pt b36 0)), (10, (vi r47.2)), (11, (.slice as118_0 s118.1.length ns118_0)), (12, (pt b65 0)), (13, (vi s118.2.1)), (14, (pt b153 0)), (15, (pt b156 0)), (68, (.bool j168.1))] /\ LC j168.2.2.2.2.1.length nj168_4 /\ SlA AK F11 aj168_4 j168.2.2.2.2.1 /\ A4 Az AH F11 mbm33_4 j168.2.2.2.2.2.1 ej168_5 /\ A4 AK Au F11 mbm33_5 j168.2.2.2.2.2.2 ej168_6) (fun wd163 hw164 => ?_) ?_
       ·refine Dv [0, 1] ?_
        refine Sd hj179 (fun hb181 h182 => ?_) (fun hb181 h183 => ?_)
        ·refine Dg 2 58 3 _ 1 true 57 hb181 (fun _ hq => mv 13 (vi s118.2.1)) ?_
         refine Dg 4 60 138 _ 1 true 57 hb181 (fun _ hq => mv 8 (pt b36 0)) <| Dg 5 61 143 _ 1 true 57 hb181 (fun _ hq => ld 143 14 b153 0 true 4 (.agg (Ai r146.2.1)) (hq.1.2 1 _ _ rfl)) <| Dg 8 64 138 _ 1 true 57 hb181 (fun _ hq => mv 8 (pt b36 0)) <| Dg 9 65 143 _ 1 true 57 hb181 (fun _ hq => ld 143 12 b65 0 true 4 (.agg #[(vi s118.2.2.2.2.2.2.1), (vi s118.2.2.2.2.2.2.2.1), (vi s118.2.2.2.2.2.2.2.2.1), (vi s118.2.2.2.2.2.2.2.2.2.1)]) (hq.1.2 3 _ _ rfl)) <| D1 3 ?_
         obtain ⟨r184, hr185, h186⟩ := bind_some h182
         refine UF (l' := [true, true, true, true, true, true, false, false, true, true, false, false, false]) (zd := true) (by kernel_rfl) (by kernel_rfl) (by kernel_rfl) (dst := (some 59)) (ty := 3) (g := (some (1, true))) (by kernel_rfl) (Ge (d := 57) (by kernel_rfl) rfl hb181) (f0 := (.func 112)) (aos := #[(.tmp 58)]) (ats := #[3]) (fid := 112) (first := #[]) (cap := #[]) (args := [(vi s118.2.1)]) rfl J5 rfl hw164 (LB N wd163 F10 hw164.pers s118.2.1 _ hr185) ?_
         rintro _ F12 w188 hs189 le190 rfl
         refine D1 6 ?_
         have hs192 := hs189.pk6.pk6.pk3.pk3.pk6
         obtain ⟨r193, hr194, h195⟩ := bind_some h186
         refine Aw.callB (l' := [true, true, true, true, true, true, true, false, true, true, false, false, false]) (zd := true) (by kernel_rfl) (by kernel_rfl) (dst := (some 62)) (ty := 3) (g := (some (1, true))) (by kernel_rfl) (Ge (d := 57) (by kernel_rfl) rfl hb181) (f0 := (.func 109)) (aos := #[(.tmp 60), (.tmp 61)]) (ats := #[138, 143]) (fid := 109) (first := #[]) (cap := #[]) (args := [(pt b36 0), (.agg (Ai r146.2.1))]) rfl B9 rfl (Df N (hG.mono ((((((((le30.t le45).trans le52).trans le63).trans le78).trans le103).trans le121).trans le151).trans le190)) b36 r146.1 ar146_0_3 nr146_0_3 mbm33_4 er146_0_4 mbm33_5 er146_0_5 hbr146_0_3 (Uw hsr146_0_3 le190) (hrr146_0_4.mono le190) (hrr146_0_5.mono le190) r146.2.1 hs192.pk6.pk6 _ hr194) ?_
         rintro _ F13 w196 _ hs197 le198 ⟨ar193_0_3, nr193_0_3, er193_0_4, er193_0_5, rfl, rfl, hbr193_0_3, hsr193_0_3, hrr193_0_4, hrr193_0_5⟩
         refine ⟨A5 hs197 (le190.t le198) (by simp) (zdT (by kernel_rfl)), ?_⟩
         refine Dg 7 63 3 (vi (W64 (r184 + r193.2))) 1 true 57 hb181 (fun _ hq => P4 (t := 3) (t' := 3) (x := (.tmp 59)) (y := (.tmp 62)) (k := .i64) (a := r184) (b := r193.2) rfl rfl) <| D1 10 ?_
         obtain ⟨r200, hr201, h202⟩ := bind_some h195
         refine Aw.callB (l' := [true, true, true, true, true, true, true, true, true, true, true, false, false]) (zd := true) (by kernel_rfl) (by kernel_rfl) (dst := (some 66)) (ty := 3) (g := (some (1, true))) (by kernel_rfl) (Ge (d := 57) (by kernel_rfl) rfl hb181) (f0 := (.func 109)) (aos := #[(.tmp 64), (.tmp 65)]) (ats := #[138, 143]) (fid := 109) (first := #[]) (cap := #[]) (args := [(pt b36 0), (.agg #[(vi s118.2.2.2.2.2.2.1), (vi s118.2.2.2.2.2.2.2.1), (vi s118.2.2.2.2.2.2.2.2.1), (vi s118.2.2.2.2.2.2.2.2.2.1)])]) rfl B9 rfl (Df N (hG.mono (((((((((le30.t le45).trans le52).trans le63).trans le78).trans le103).trans le121).trans le151).trans le190).trans le198)) b36 r193.1 ar193_0_3 nr193_0_3 mbm33_4 er193_0_4 mbm33_5 er193_0_5 hbr193_0_3 hsr193_0_3 hrr193_0_4 hrr193_0_5 (({ at_ := s118.2.2.2.2.2.2.1, stage_ := s118.2.2.2.2.2.2.2.1, num_ := s118.2.2.2.2.2.2.2.2.1, minute_ := s118.2.2.2.2.2.2.2.2.2.1 } : An)) hs197 _ hr201) ?_
         rintro _ F14 w203 _ hs204 le205 ⟨ar200_0_3, nr200_0_3, er200_0_4, er200_0_5, rfl, rfl, hbr200_0_3, hsr200_0_3, hrr200_0_4, hrr200_0_5⟩
         refine ⟨A5 hs204 ((le190.t le198).trans le205) (by simp) (zdT (by kernel_rfl)), ?_⟩
         refine Dg 11 67 4 (.bool ((W64 (r184 + r193.2)) == r200.2)) 1 true 57 hb181 (fun _ hq => EZ (t := 3) (t' := 3) (x := (.tmp 63)) (y := (.tmp 66)) (k := .i64) (a := (W64 (r184 + r193.2))) (b := r200.2) rfl rfl) <| Dt 12 68 4 _ (fun _ hq => p1 57 (.tmp 67) (.const (.bool false)) (.bool ((W64 (r184 + r193.2)) == r200.2)) hb181) ?_
         obtain rfl := Aa h202
         have hs207 := hs204.pk6.pk6.pk4.pk4.pk4
         exact UG (by kernel_rfl) ⟨F14, ar200_0_3, nr200_0_3, er200_0_4, er200_0_5, hs207.pk6.pk6, ((le190.t le198).trans le205), fI, hbr200_0_3, hsr200_0_3, hrr200_0_4, hrr200_0_5⟩
        ·refine Dk [(2, 58), (3, 59), (4, 60), (5, 61), (6, 62), (7, 63), (8, 64), (9, 65), (10, 66), (11, 67)] 1 true 57 hb181 ?_
         refine Dt 12 68 4 _ (fun _ hq => p0 57 (.tmp 67) (.const (.bool false)) (.bool false) hb181) ?_
         obtain rfl := Aa h183
         exact UG (by kernel_rfl) ⟨F10, ar146_0_3, nr146_0_3, er146_0_4, er146_0_5, hw164, (Uu _), fI, hbr146_0_3, hsr146_0_3, hrr146_0_4, hrr146_0_5⟩
       ·rintro f w165 ⟨F11, aj168_4, nj168_4, ej168_5, ej168_6, hs166, le167, ⟨_, rfl⟩, hbj168_4, hsj168_4, hrj168_5, hrj168_6⟩
        refine Ab <| Cd h180 (fun hb208 h209 => ?_) (fun hb208 h210 => ?_)
        ·refine Sq (Rg (rG 5) ?_)
         refine Vs 1 <| Ld hs166.at0 <| Bs 150 [(vi r146.2.2.1.Kind), (vi r146.2.2.1.At), (sv r146.2.2.1.Text)] hs166 (fun b211 w212 hs213 => ?_)
         have hr215 : Av JC 150 F11 (some ⟨b211, 0, none⟩) 1 [r146.2.2.1] (some b211, .cells ([(vi r146.2.2.1.Kind), (vi r146.2.2.1.At), (sv r146.2.2.1.Text)] : List Value).toArray 150 (0, 0)) := UJ ⟨rfl, rfl⟩ (by simp)
         obtain ⟨r216, hap217, h218⟩ := bind_some h209
         refine Ap6 TW hs213 (hrs118_0.mono (le151.t le167)) (hs213.rd0 hr215) hap217 (fun a219 n220 e221 w222 hs223 hr224 => ?_)
         refine Vs 1 <| Nss (Rg [0, 1] ?_)
         refine Ld hs223.at2 <| St7 (Ai r146.2.1) hs223 (fun w225 hs226 => ?_)
         refine Nt <| Ex <| LE (by decide) <| Ao <| Ao <| Ay rfl ?_
         have hs227 := hs226.dr0.dr0.dr0.pk2.pk2
         have ho228 := AE h218 hnx144
         exact .inl ⟨rfl, (r216, s118.2.1, j168.2.1, j168.2.2.1, j168.2.2.2.1, j168.2.2.2.2.1, r146.2.1.at_, r146.2.1.stage_, r146.2.1.num_, r146.2.1.minute_, j168.2.2.2.2.2.1, j168.2.2.2.2.2.2), F11, aj168_4, nj168_4, ej168_5, ej168_6, a219, n220, e221, ho228, hs227.pk2.pk4.pk4, ((le121.t le151).trans le167), fI, hbj168_4, hsj168_4, hrj168_5, hrj168_6, hr224⟩
        ·refine Sc ?_
         refine Aq <| Ab <| Rg [0, 1, 2] <| Vs 3 <| Up ?_
         have hs229 := hs166.dr0.dr0.pk2.pk2.pk2
         have hn230 := AJ h210 hnx144
         exact ⟨m141, Nat.lt_succ_self _, (s118.1, (W64 (s118.2.1 + 1)), j168.2.1, j168.2.2.1, j168.2.2.2.1, j168.2.2.2.2.1, s118.2.2.2.2.2.2.1, s118.2.2.2.2.2.2.2.1, s118.2.2.2.2.2.2.2.2.1, s118.2.2.2.2.2.2.2.2.2.1, j168.2.2.2.2.2.1, j168.2.2.2.2.2.2), F11, aj168_4, nj168_4, ej168_5, ej168_6, as118_0, ns118_0, es118_0, hn230, hs229.pk4.pk4, ((le121.t le151).trans le167), fI, hbj168_4, hsj168_4, hrj168_5, hrj168_6, (hrs118_0.mono (le151.t le167))⟩
      ·rintro f w130 ⟨s129, F9, as129_5, ns129_5, es129_10, es129_11, as129_0, ns129_0, es129_0, rfl, hs131, le132, ⟨_, rfl⟩, hbs129_5, hss129_5, hrs129_10, hrs129_11, hrs129_0⟩
       have h231 := Bc h117
       refine Aq <| Ab <| Sq (Rg [0] ?_)
       refine Ld hs131.at1 <| Nt <| Rg [0, 1] <| Al' 143 #[(vi 0), (vi 0), (vi 0), (vi 0)] hs131 (fun b232 w233 hs234 => ?_)
       refine St0 #[(vi s129.2.2.2.2.2.2.1), (vi s129.2.2.2.2.2.2.2.1), (vi s129.2.2.2.2.2.2.2.2.1), (vi s129.2.2.2.2.2.2.2.2.2.1)] hs234 (fun w235 hs236 => ?_)
       refine Up ?_
       have hs237 := hs236.dr2.pk4.pk4.pk4.pk3
       have hn238 := AJ h231 hnx98
       exact ⟨m95, Nat.lt_succ_self _, (s129.1, s129.2.2.1, s129.2.2.2.1, s129.2.2.2.2.1, s129.2.2.2.2.2.1, s129.2.2.2.2.2.2.1, s129.2.2.2.2.2.2.2.1, s129.2.2.2.2.2.2.2.2.1, s129.2.2.2.2.2.2.2.2.2.1, s129.2.2.2.2.2.2.2.2.2.2.1, s129.2.2.2.2.2.2.2.2.2.2.2), F9, b232, as129_5, ns129_5, es129_10, es129_11, as129_0, ns129_0, es129_0, hn238, hs237.pk4, ((le78.t le103).trans le132), fI, hbs129_5, hss129_5, hrs129_10, hrs129_11, hrs129_0⟩
     ·refine Ex ?_
      refine Ao <| Ao <| Ay rfl ?_
      have ho239 := AE h114 hnx98
      exact .inl ⟨rfl, (s75.1, s75.2.1, s75.2.2.1, s75.2.2.2.1, s75.2.2.2.2.1, s75.2.2.2.2.2.1, s75.2.2.2.2.2.2.1, s75.2.2.2.2.2.2.2.1, s75.2.2.2.2.2.2.2.2.1, s75.2.2.2.2.2.2.2.2.2.1, s75.2.2.2.2.2.2.2.2.2.2), F7, as75_0, ns75_0, es75_0, ho239, hs102.dr1.dr1.dr1.dr1, (le78.t le103), fI, (hrs75_0.mono le103)⟩
   ·rintro f w86 ⟨s85, F6, as85_0, ns85_0, es85_0, rfl, hs87, le88, ⟨_, rfl⟩, hrs85_0⟩
    have h240 := Bc h74
    refine Ab <| Sq (Rg (rG 8) ?_)
    refine Vs 2 ?_
    have hb244 := UH hrs85_0
    obtain ⟨F15, hs241, le242, hs243⟩ := hs87.fr0 hrs85_0
    obtain ⟨r245, hr246, h247⟩ := bind_some h240
    refine Cl' MK hs241 (Nr N w86 F15 hs241.pers (hG.mono (((((le30.t le45).trans le52).trans le63).trans le88).trans le242)) x1 s85.1 as85_0 ns85_0 hb244 hs243 _ hr246) ?_
    rintro _ F16 w249 hs250 le251 rfl
    refine Vs 5 <| Nss (Rg (rG 8) ?_)
    refine Vs 8 <| Nt <| Rt ?_
    obtain rfl := Aa h247
    exact Re [(sv r245.1), (.slice as85_0 s85.1.length ns85_0), (vi r47.2), (vi r245.2)] hs250 ⟨as85_0, ns85_0, rfl, hb244, (Uw hs243 le251)⟩
def CJ (N : Nat) (x0 : Line) (x1 : Int) : Option Int :=
 ((Hl N x0.Num x1).bind fun r24 => some r24)
theorem Gi : Af Tryz.prog 253 := fun _ _ => by kernel_rfl
theorem GN (N : Nat) (w0 : World) (F0 : Mem) (hF : UQ w0 F0) (x0 : Line) (x1 : Int) (r : Int) (h : CJ N x0 x1 = some r) :
  Calls Tryz.prog 253 ([(.agg (BN x0)), (vi x1)] : List Value).toArray w0 (AA w0 F0 fun F' v => v = (vi r)) := by
 have hs0 := Uv hF
 refine Go 9 Tryz.func253 <| Sq (Rg [0, 1] ?_)
 refine Bx' 34 (BN x0) hs0 (fun b21 w22 hs23 => ?_)
 refine Vs 1 <| Nss (Rg (rG 5) ?_)
 refine Vs 1 <| Ld hs23.at0 <| Vs 1 ?_
 obtain ⟨r24, hr25, h26⟩ := bind_some h
 refine Cl' Jp hs23 (Kj N w22 F0 hs23.pers x0.Num x1 _ hr25) ?_
 rintro _ F1 w28 hs29 le30 rfl
 refine Vs 1 <| Nt <| Rt ?_
 obtain rfl := Aa h26
 exact Re [(vi r24)] hs29 rfl
def EW (N : Nat) (x0 : AZ) (x1 : Int) : Option (Int × Bool) :=
 ((Bh N x0.l_.Lines x1 (fun y0 y1 => CJ N y0 y1)).bind fun r21 => some (r21.1, r21.2))
theorem G1 : Af Tryz.prog 207 := fun _ _ => by kernel_rfl
theorem Hu (N : Nat) {wb w0 : World} {Fb F0 : Mem} {Lf : Own} (bp0 : Nat) (x0 : AZ) (a0_7 : UP) (n0_7 : Nat) (a0_8 : UP) (n0_8 : Nat) (e0_8 : Option Nat × Obj) (hb0_7 : LC x0.l_.Jumps.length n0_7) (hs0_7 : SlA AH F0 a0_7 x0.l_.Jumps) (hr0_8 : Av AF 34 F0 a0_8 n0_8 x0.l_.Lines e0_8) (x1 : Int) (hs0 : HS wb Fb w0 F0 ((sb bp0 (Bx x0 a0_7 n0_7 a0_8 n0_8) 214) :: e0_8 :: Lf)) (r : (Int × Bool)) (h : EW N x0 x1 = some r) :
  Calls Tryz.prog 207 ([(pt bp0 0), (vi x1)] : List Value).toArray w0 (Es wb Fb F0 fun F' v L' => v = (.tuple #[(vi r.1), (.bool r.2)]) /\ L' = (sb bp0 (Bx x0 a0_7 n0_7 a0_8 n0_8) 214) :: e0_8 :: Lf) := by
 refine Go 15 Tryz.func207 <| Sq (Rg [0, 1] ?_)
 refine Vs 2 <| Nss (Rg (rG 11) ?_)
 refine Vs 4 <| Ld hs0.at0 <| Vs 1 ?_
 obtain ⟨r21, hr22, h23⟩ := bind_some h
 refine RWP.callLentP (q := 1) (v0 := (.tuple #[(vi r21.1), (.bool r21.2)])) (dst := (some 12)) (ty := 119) (g := none) (by kernel_rfl) rfl (f0 := (.func 252)) (aos := #[(.tmp 10), (.tmp 11), (.func 253)]) (ats := #[25, 3, 281]) (fid := 252) (first := #[]) (cap := #[]) (args := [(.slice a0_8 x0.l_.Lines.length n0_8), (vi x1), (fV 253 #[])]) rfl B0 rfl hs0 rfl (Ca N w0 (G9 F0 e0_8) (HS.lend hs0 (q := 1) rfl).2 x0.l_.Lines a0_8 n0_8 (UH hr0_8) (Av.freeze hr0_8 (HS.lend hs0 (q := 1) rfl).1) x1 253 [] [] (fun y0 y1 => CJ N y0 y1) Gi (fun w1 F1 y0 y1 r le1 pe1 hr1 => GN N w1 F1 pe1 y0 y1 r hr1) _ hr22) (fun F1 w24 (hs25 : HS wb Fb w24 F1 ((sb bp0 (Bx x0 a0_7 n0_7 a0_8 n0_8) 214) :: e0_8 :: Lf)) le26 => ?_)
 refine Vs 4 <| Nt <| Rt ?_
 obtain rfl := Aa h23
 exact ReB [(vi r21.1), (.bool r21.2)] hs25 le26 ⟨rfl, rfl⟩
def BB (N : Nat) (l : List Line) (i j : Int) : Option (List Line) := if 0 <= i /\ i < j /\ j <= (l.length : Int) then some (l.take i.toNat ++ l.drop j.toNat) else none
theorem DH : Af Tryz.prog 208 := fun _ _ => by kernel_rfl
theorem DQ (N : Nat) {wb w0 : World} {Fb F0 : Mem} {Lf : Own} (x0 : List Line) (a0 : UP) (n0 : Nat) (e0 : Option Nat × Obj) (hr0 : Av AF 34 F0 a0 n0 x0 e0) (hs0 : HS wb Fb w0 F0 (e0 :: Lf)) (x1 x2 : Int) (r : List Line) (h : BB N x0 x1 x2 = some r) :
  Calls Tryz.prog 208 ([.slice a0 x0.length n0, .int .i64 x1, .int .i64 x2] : List Value).toArray w0 (fun e w' => ∃ F' a' n' e', e = .returned (.slice a' r.length n') /\ HS wb Fb w' F' (e' :: Lf) /\ Ut F0 F' /\ Av AF 34 F' a' n' r e') := by
 unfold BB at h
 split at h
 case isFalse => cases h
 rename_i hc
 obtain ⟨h1, h2, h3⟩ := hc
 obtain ⟨i, rfl⟩ : ∃ i : Nat, x1 = (i : Int) := ⟨x1.toNat, by omega⟩
 obtain ⟨j, rfl⟩ : ∃ j : Nat, x2 = (j : Int) := ⟨x2.toNat, by omega⟩
 simp only [Int.toNat_natCast] at h
 have hij : i < j := by omega
 have hjl : j <= x0.length := by omega
 have hb := hr0.bound
 rcases hr0.2 with ⟨_, _, hn, _⟩ | ⟨b, C, rfl, rfl, hlc, hC, hx⟩
 ·subst hn; simp at hjl; omega
 have hsz : AF.sz = 11 := rfl
 have hr1 : Av AF 34 F0 (some ⟨b, 0, none⟩) n0 (x0.take i) (some b, .cells C 34 (0, 0)) := hr0.take i
 have hl1 : (x0.take i).length = i := by simp; omega
 have hl2 : (x0.drop j).length = x0.length - j := by simp
 have hrl : r.length = i + (x0.length - j) := by cases h; simp; omega
 have hlt : r.length < x0.length := by omega
 have er : x0.take i ++ x0.drop j = r := by cases h; rfl
 have hne : (((i : Int) == (j : Int)) : Bool) = false := by
  rw [beq_eq_false_iff_ne]; omega
 refine Go 33 Tryz.func208 <| Sq (Rg [0] ?_)
 refine Vs 1 <| Nt <| Sq (Rg [0, 1, 2, 3, 4, 5] ?_)
 refine Vs 5 <| V 13 25 (CR (x := .tmp 8) (lo := some (.tmp 9)) (hi := some (.tmp 10)) (mx := some (.tmp 12)) (t := 25) (E := 34) (s := 11) (by_ := 96) (n := x0.length) (c := n0) (a := some ⟨b, 0, none⟩) (i := i) (j := j) (m := x0.length) rfl (by kernel_rfl) (by kernel_rfl) rfl rfl rfl (fun _ => rfl) (by omega) hjl hlc) <| Nt <| Sq <| Sq (Rg [0, 1, 2] ?_)
 refine Vs 3 <| Nt <| C0 hne <| Sc <| Ab <| Sq (Rg [0, 1, 2] ?_)
 refine Vs 3 <| Nt <| Sq <| RD 8 8 [] [] hs0 (fun f w => ∃ C', C'.size = C.size /\ HS wb Fb w F0 ((some b, .cells C' 34 (0, 0)) :: Lf) /\ Av AF 34 F0 (some ⟨b, 0, none⟩) n0 r (some b, .cells C' 34 (0, 0)) /\ FI f [] [(0, .slice (some ⟨b, 0, none⟩) r.length n0), (7, .int .i64 (x0.length : Int))]) (fun wd hw => ?_) ?_
 ·refine Dv [0, 1] ?_
  refine DWP.tk 2 (v := .slice (some ⟨b, 0, none⟩) (x0.take i).length n0) (fun wq hq => ?_) ?_ (by kernel_rfl) (by kernel_rfl) (by kernel_rfl)
  ·have e : (if n0 = 0 then some (⟨b, 0, none⟩ : Addr) else (some (⟨b, 0, none⟩ : Addr)).map (·.add (0 * 11))) = some ⟨b, 0, none⟩ := by
    split
    ·rfl
    ·rfl
   refine (CR (P := Tryz.prog) (lo := none) (hi := some (.tmp 21)) (mx := none) (t := 25) (E := 34) (s := 11) (by_ := 96) (n := x0.length) (c := n0) (a := some ⟨b, 0, none⟩) (i := 0) (j := i) (m := n0) rfl (by kernel_rfl) (by kernel_rfl) rfl rfl rfl (fun h => by cases h) (by omega) (by omega) (Nat.le_refl _)).trans ?_
   rw [e, Nat.sub_zero, Nat.sub_zero, hl1]
  refine Dv [3, 4] <| DWP.tk 5 (v := .slice (if n0 = j then some ⟨b, 0, none⟩ else (some (⟨b, 0, none⟩ : Addr)).map (·.add (j * 11))) (x0.drop j).length (n0 - j)) (fun wq hq => ?_) ?_ (by kernel_rfl) (by kernel_rfl) (by kernel_rfl)
  ·rw [hl2]
   exact CR (P := Tryz.prog) (lo := some (.tmp 24)) (hi := none) (mx := none) (t := 25) (E := 34) (s := 11) (by_ := 96) (n := x0.length) (c := n0) (a := some ⟨b, 0, none⟩) (i := j) (j := x0.length) (m := n0) rfl (by kernel_rfl) (by kernel_rfl) rfl rfl rfl (fun h => by cases h) hjl hlc (Nat.le_refl _)
  have hrd : Rd AF F0 wd (if n0 = j then some ⟨b, 0, none⟩ else (some (⟨b, 0, none⟩ : Addr)).map (·.add (j * 11))) (x0.drop j) := by
   by_cases hj : n0 = j
   ·exact .inl (by apply List.drop_eq_nil_of_le; omega)
   ·rw [if_neg hj]
    refine .inr ⟨b, j * 11, C, 34, (0, 0), by simp [Addr.add_lit], hw.ownAt (k := 0) rfl, fun q x hq => ?_⟩
    rw [List.getElem?_drop] at hq
    have := hx _ _ hq
    rw [hsz, Nat.add_mul] at this
    exact this
  obtain ⟨C', hC', hr2, hrun⟩ := Ml (P := Tryz.prog) (T := AF) (t := 25) (t2 := 25) (by_ := 96) (c2 := n0 - j) (by kernel_rfl) (by kernel_rfl) Rw hw (k := 0) rfl hr1 hrd (by rw [hl1, hl2]; omega) (by rw [hl1, hl2]; have := hr0.1; omega)
  rw [er] at hrun hr2
  have hs2 : HS wb Fb _ F0 ((some b, .cells C' 34 (0, 0)) :: Lf) := hw.put (k := 0) rfl (.cells C' 34 (0, 0))
  refine D1 6 <| UD (l' := [true, true, true, true, true, true, true, false]) (zd := true) (by kernel_rfl) (by kernel_rfl) (dst := some 26) (ty := 25) (g := none) (by kernel_rfl) rfl (hrun (x := .tmp 22) (y := .tmp 25) (by kernel_rfl) (by kernel_rfl)) (A5 hs2 (Uu _) (by simp) (fun e => by cases e)) <| Dv [7] ?_
  exact UG (by kernel_rfl) ⟨C', hC', hs2, hr2, fI⟩
 ·rintro f w ⟨C', hC', hs2, hr2, ⟨_, rfl⟩⟩
  refine Ab <| Sq (Rg [0, 1, 2, 3, 4, 5] ?_)
  refine Vs 4 ?_
  have e : (if n0 = r.length then some (⟨b, 0, none⟩ : Addr) else (some (⟨b, 0, none⟩ : Addr)).map (·.add (r.length * 11))) = some ⟨b, r.length * 11, none⟩ := by
   rw [if_neg (by omega)]; simp [Addr.add_lit]
  refine V 31 25 (CR (P := Tryz.prog) (x := .tmp 27) (lo := some (.tmp 29)) (hi := some (.tmp 30)) (mx := none) (t := 25) (E := 34) (s := 11) (by_ := 96) (n := r.length) (c := n0) (a := some ⟨b, 0, none⟩) (i := r.length) (j := x0.length) (m := n0) rfl (by kernel_rfl) (by kernel_rfl) rfl rfl rfl (fun h => by cases h) (by omega) hlc (Nat.le_refl _)) ?_
  rw [e]
  obtain ⟨vs, hvs, hrun⟩ := Oa (P := Tryz.prog) (T := AF) (E := 34) (w := w) (b := b) (C := C') (j := r.length) (k := x0.length - r.length) (c := n0 - r.length) (t := 25) (by_ := 96) (z := .agg #[.int .i64 0, .int .i64 0, .int .i64 0, .int .i64 0, .string ⟨([] : UO).toArray⟩, .int .i64 0, .int .i64 0, .int .i64 0, .int .i64 0, .int .i64 0, .int .i64 0]) (by kernel_rfl) (by kernel_rfl) rfl rfl (hs2.ownAt (k := 0) rfl) (by omega) (by rw [hC', hC, <- Nat.add_mul]; exact Nat.mul_le_mul_right _ (by omega))
  have hfit : r.length * AF.sz + vs.length <= C'.size := by rw [hvs, hC', hC, <- Nat.add_mul]; exact Nat.mul_le_mul_right _ (by omega)
  have hs3 : HS wb Fb _ F0 ((some b, .cells (CE C' (r.length * AF.sz) vs) 34 (0, 0)) :: Lf) := hs2.put (k := 0) rfl _
  have hr3 : Av AF 34 F0 (some ⟨b, 0, none⟩) n0 r (some b, .cells (CE C' (r.length * AF.sz) vs) 34 (0, 0)) := by
   rcases hr2.2 with ⟨h, _⟩ | ⟨b', C0, hb', hc', k1, k2, k3⟩
   ·cases h
   ·cases hb'; cases hc'
    refine ⟨hr2.1, .inr ⟨b, _, rfl, rfl, k1, by rw [Fe]; exact k2, fun q x hq => ?_⟩⟩
    have hql : q < r.length := by
     rcases Nat.lt_or_ge q r.length with h' | h'
     ·exact h'
     ·rw [List.getElem?_eq_none h'] at hq; cases hq
    rw [Oz hfit (by rw [<- Nat.succ_mul]; exact Nat.mul_le_mul_right _ hql)]
    exact k3 q x hq
  refine Uq (dst := none) (ty := 0) (g := none) (by kernel_rfl) rfl (hrun (x := .tmp 31) (by kernel_rfl)) <| Nt <| Sq (Rg [0, 1] ?_)
  refine Vs 2 <| Nt <| Rt ?_
  exact ⟨rfl, _, AQ (l := [.tmp 6]) (by kernel_rfl) (vs := [.slice (some ⟨b, 0, none⟩) r.length n0]) ⟨by kernel_rfl, trivial⟩, F0, _, _, _, rfl, hs3, Uu _, hr3⟩
def EX (N : Nat) (x0 : AZ) (x1 : Fix) : Option (AZ × Fix × Bool) :=
 ((EW N ({ o_ := ({ Report := x0.o_.Report, Serial := x0.o_.Serial, Zone := x0.o_.Zone } : Ac), l_ := x0.l_ } : AZ) x1.Num).bind fun r27 => (bif ((!r27.2) || (!((x1.Line.Num == 0) && ((x1.Line.Khz == 0) && ((x1.Line.Mode == 0) && ((x1.Line.Minute == 0) && ((x1.Line.Call == ([] : UO)) && (((x1.Line.Sent.Report == 0) && ((x1.Line.Sent.Serial == 0) && ((x1.Line.Sent.Zone == 0) && true))) && (((x1.Line.Got.Report == 0) && ((x1.Line.Got.Serial == 0) && ((x1.Line.Got.Zone == 0) && true))) && true))))))))) then none else ((idx x0.l_.Lines r27.1).bind fun x47 => ((BB N x0.l_.Lines r27.1 (W64 (r27.1 + 1))).bind fun r64 => some (({ o_ := ({ Report := x0.o_.Report, Serial := x0.o_.Serial, Zone := x0.o_.Zone } : Ac), l_ := ({ Call := x0.l_.Call, Category := x0.l_.Category, Power := x0.l_.Power, Claimed := x0.l_.Claimed, Jumps := x0.l_.Jumps, Lines := r64 } : Log) } : AZ), ({ Kind := 2, Num := x1.Num, Line := x47 } : Fix), true)))))
theorem G2 : Af Tryz.prog 178 := fun _ _ => by kernel_rfl
theorem Hv (N : Nat) {wb w0 : World} {Fb F0 : Mem} {Lf : Own} (bp0 : Nat) (x0 : AZ) (a0_7 : UP) (n0_7 : Nat) (a0_8 : UP) (n0_8 : Nat) (e0_8 : Option Nat × Obj) (hb0_7 : LC x0.l_.Jumps.length n0_7) (hs0_7 : SlA AH F0 a0_7 x0.l_.Jumps) (hr0_8 : Av AF 34 F0 a0_8 n0_8 x0.l_.Lines e0_8) (x1 : Fix) (hs0 : HS wb Fb w0 F0 ((sb bp0 (Bx x0 a0_7 n0_7 a0_8 n0_8) 214) :: e0_8 :: Lf)) (r : (AZ × Fix × Bool)) (h : EX N x0 x1 = some r) :
  Calls Tryz.prog 178 ([(pt bp0 0), (.agg (O0 x1))] : List Value).toArray w0 (Es wb Fb F0 fun F' v L' => ∃ (aq0_7 : UP) (nq0_7 : Nat) (aq0_8 : UP) (nq0_8 : Nat) (eq0_8 : Option Nat × Obj), v = (.tuple #[(.agg (O0 r.2.1)), (.bool r.2.2)]) /\ L' = (sb bp0 (Bx r.1 aq0_7 nq0_7 aq0_8 nq0_8) 214) :: eq0_8 :: Lf /\ LC r.1.l_.Jumps.length nq0_7 /\ SlA AH F' aq0_7 r.1.l_.Jumps /\ Av AF 34 F' aq0_8 nq0_8 r.1.l_.Lines eq0_8) := by
 refine Go 50 Tryz.func178 <| Sq (Rg [0, 1, 2] ?_)
 refine Bx' 64 (O0 x1) hs0 (fun b21 w22 hs23 => ?_)
 refine Al' 64 #[(vi 0), (vi 0), (vi 0), (vi 0), (vi 0), (vi 0), (sv (([] : UO))), (vi 0), (vi 0), (vi 0), (vi 0), (vi 0), (vi 0)] hs23 (fun b24 w25 hs26 => ?_)
 refine Vs 1 <| Nss (Rg (rG 9) ?_)
 refine Vs 2 <| Ld hs26.at1 ?_
 obtain ⟨r27, hr28, h29⟩ := bind_some h
 refine CB G1 (Hu N bp0 (({ o_ := ({ Report := x0.o_.Report, Serial := x0.o_.Serial, Zone := x0.o_.Zone } : Ac), l_ := x0.l_ } : AZ)) a0_7 n0_7 a0_8 n0_8 e0_8 hb0_7 hs0_7 hr0_8 x1.Num hs26.pk1.pk1.pk3.pk3 _ hr28) ?_
 rintro _ F1 w30 _ hs31 le32 ⟨rfl, rfl⟩
 refine Vs 5 <| Nss <| Sq (Rg (rG 8) ?_)
 refine Uz (fun f w => ∃ (F2 : Mem), HS wb Fb w F2 ((sb bp0 (Bx x0 a0_7 n0_7 a0_8 n0_8) 214) :: e0_8 :: (sb b24 #[(vi 0), (vi 0), (vi 0), (vi 0), (vi 0), (vi 0), (sv (([] : UO))), (vi 0), (vi 0), (vi 0), (vi 0), (vi 0), (vi 0)] 64) :: (sb b21 (O0 x1) 64) :: Lf) /\ Ut F1 F2 /\ FI f [] [(0, (pt bp0 0)), (3, (pt b21 0)), (4, (pt b24 0)), (6, (vi r27.1)), (23, (.bool ((!r27.2) || (!((x1.Line.Num == 0) && ((x1.Line.Khz == 0) && ((x1.Line.Mode == 0) && ((x1.Line.Minute == 0) && ((x1.Line.Call == ([] : UO)) && (((x1.Line.Sent.Report == 0) && ((x1.Line.Sent.Serial == 0) && ((x1.Line.Sent.Zone == 0) && true))) && (((x1.Line.Got.Report == 0) && ((x1.Line.Got.Serial == 0) && ((x1.Line.Got.Zone == 0) && true))) && true)))))))))))]) ?_ ?_
 ·refine Vs 3 ?_
  refine Uy (!r27.2) (fun hb43 => ?_) (fun hb43 => ?_)
  ·refine Ss hb43 4 ?_
   refine Pk1 hb43 ?_
   exact Up ⟨rfl, F1, hs31, (Uu _), (fJ ⟨rfl, rfl, rfl, rfl, (congrArg Value.bool (FD hb43 rfl)), trivial⟩)⟩
  ·refine Vgs hb43 1 ?_
   refine Lg hb43 hs31.at3 <| Vgs hb43 2 <| Pk0 hb43 ?_
   exact Up ⟨rfl, F1, hs31, (Uu _), (fJ ⟨rfl, rfl, rfl, rfl, (kq (.bool (!((x1.Line.Num == 0) && ((x1.Line.Khz == 0) && ((x1.Line.Mode == 0) && ((x1.Line.Minute == 0) && ((x1.Line.Call == ([] : UO)) && (((x1.Line.Sent.Report == 0) && ((x1.Line.Sent.Serial == 0) && ((x1.Line.Sent.Zone == 0) && true))) && (((x1.Line.Got.Report == 0) && ((x1.Line.Got.Serial == 0) && ((x1.Line.Got.Zone == 0) && true))) && true))))))))) (congrArg Value.bool (Cn hb43 rfl))), trivial⟩)⟩
 ·rintro f w34 ⟨F2, hs35, le36, ⟨_, rfl⟩⟩
  refine Ab <| Cd h29 (fun hb44 h45 => ?_) (fun hb44 h46 => ?_)
  ·cases h45
  ·refine Sc ?_
   refine Ab <| Sq (Rg (rG 10) ?_)
   refine Vs 4 <| Ld hs35.at0 <| Vs 1 ?_
   obtain ⟨x47, hx48, h50⟩ := bind_some h46
   obtain ⟨hi49, hx48'⟩ := Ak hx48
   obtain ⟨b51, C52, rfl, rfl, hE55⟩ := Av.open (hr0_8.mono (le32.t le36)) hx48'
   have hr56 := (hr0_8.mono (le32.t le36))
   have hc58 := hE55 _ _ hx48'
   refine Ix0 hi49 <| Lx 0 hs35.at1 hc58 <| Al' 34 #[(vi 0), (vi 0), (vi 0), (vi 0), (sv (([] : UO))), (vi 0), (vi 0), (vi 0), (vi 0), (vi 0), (vi 0)] hs35 (fun b59 w60 hs61 => ?_)
   refine St0 (BN x47) hs61 (fun w62 hs63 => ?_)
   refine Nss (Rg (rG 14) ?_)
   refine Vs 5 <| Ld hs63.at1 <| Vs 3 ?_
   obtain ⟨r64, hr65, h66⟩ := bind_some h50
   refine RWP.callS (dst := (some 42)) (ty := 25) (g := none) (by kernel_rfl) rfl (f0 := (.func 208)) (aos := #[(.tmp 38), (.tmp 39), (.tmp 41)]) (ats := #[25, 3, 3]) (fid := 208) (first := #[]) (cap := #[]) (args := [(.slice (some ⟨b51, 0, none⟩) x0.l_.Lines.length n0_8), (vi r27.1), (vi (W64 (r27.1 + 1)))]) rfl DH rfl (DQ N (Lf := ((sb b59 (BN x47) 34) :: (sb bp0 (Bx x0 a0_7 n0_7 (some ⟨b51, 0, none⟩) n0_8) 214) :: (sb b24 #[(vi 0), (vi 0), (vi 0), (vi 0), (vi 0), (vi 0), (sv (([] : UO))), (vi 0), (vi 0), (vi 0), (vi 0), (vi 0), (vi 0)] 64) :: (sb b21 (O0 x1) 64) :: Lf)) x0.l_.Lines (some ⟨b51, 0, none⟩) n0_8 (some b51, .cells C52 34 (0, 0)) hr56 hs63.pk4.pk4.pk3.pk3.pk4 r27.1 ((W64 (r27.1 + 1))) _ hr65) ?_
   rintro _ w70 ⟨F3, a67, n68, e69, rfl, hs71, le72, hr73⟩
   refine ⟨_, rfl, ?_⟩
   have hs74 : HS wb Fb w70 F3 (e69 :: (sb b59 (BN x47) 34) :: (sb bp0 (Bx x0 a0_7 n0_7 (some ⟨b51, 0, none⟩) n0_8) 214) :: (sb b24 #[(vi 0), (vi 0), (vi 0), (vi 0), (vi 0), (vi 0), (sv (([] : UO))), (vi 0), (vi 0), (vi 0), (vi 0), (vi 0), (vi 0)] 64) :: (sb b21 (O0 x1) 64) :: Lf) := hs71
   refine Vs 3 <| St2 #[(.bool x0.o_.Report), (.bool x0.o_.Serial), (.bool x0.o_.Zone), (sv x0.l_.Call), (vi x0.l_.Category), (vi x0.l_.Power), (vi x0.l_.Claimed), (.slice a0_7 x0.l_.Jumps.length n0_7), (.slice a67 r64.length n68)] hs74 (fun w75 hs76 => ?_)
   refine Nss (Rg (rG 6) ?_)
   refine Vs 1 <| Ld hs76.at4 <| Ld hs76.at1 <| Vs 1 <| St3 #[(vi 2), (vi x1.Num), (vi x47.Num), (vi x47.Khz), (vi x47.Mode), (vi x47.Minute), (sv x47.Call), (vi x47.Sent.Report), (vi x47.Sent.Serial), (vi x47.Sent.Zone), (vi x47.Got.Report), (vi x47.Got.Serial), (vi x47.Got.Zone)] hs76 (fun w77 hs78 => ?_)
   refine Vs 1 <| Nt <| Rt ?_
   obtain rfl := Aa h66
   exact ⟨rfl, (.tuple #[(.agg #[(vi 2), (vi x1.Num), (vi x47.Num), (vi x47.Khz), (vi x47.Mode), (vi x47.Minute), (sv x47.Call), (vi x47.Sent.Report), (vi x47.Sent.Serial), (vi x47.Sent.Zone), (vi x47.Got.Report), (vi x47.Got.Serial), (vi x47.Got.Zone)]), (.bool true)]), AQ (l := [.cell 4 64, .tmp 5]) (by kernel_rfl) (vs := [(.agg #[(vi 2), (vi x1.Num), (vi x47.Num), (vi x47.Khz), (vi x47.Mode), (vi x47.Minute), (sv x47.Call), (vi x47.Sent.Report), (vi x47.Sent.Serial), (vi x47.Sent.Zone), (vi x47.Got.Report), (vi x47.Got.Serial), (vi x47.Got.Zone)]), (.bool true)]) ⟨b24, 0, rfl, Am (t := 64) (g := true) (s := 13) (by kernel_rfl) hs78.at3 rfl (by decide), ⟨rfl, trivial⟩⟩, F3, _, _, rfl, hs78.dr1.dr2.dr2.pk1, ((le32.t le36).trans le72), ⟨a0_7, n0_7, a67, n68, e69, rfl, rfl, hb0_7, (Uw hs0_7 ((le32.t le36).trans le72)), hr73⟩⟩



def EE (N : Nat) (x0 : List Int) : Option (List Int) := DR [] x0
theorem Ci : Af Tryz.prog 176 := fun _ _ => by kernel_rfl
set_option maxRecDepth 100000 in
theorem Cy (N : Nat) (w0 : World) (F0 : Mem) (hF : UQ w0 F0) (x0 : List Int) (a0_0 : UP) (n0_0 : Nat) (hb0_0 : LC x0.length n0_0) (hs0_0 : SlA AH F0 a0_0 x0) (r : List Int) (h : EE N x0 = some r) :
  Calls Tryz.prog 176 ([(.slice a0_0 x0.length n0_0)] : List Value).toArray w0 (M3 w0 F0 fun F' v L' => ∃ (a : UP) (n : Nat) (e : Option Nat × Obj), v = .slice a r.length n /\ L' = [e] /\ Av AH 3 F' a n r e) := by
 have hs0 := Uv hF
 refine Go 8 Tryz.func176 <| Sq (Rg [0] ?_)
 refine Vs 1 <| Nt <| Sq <| Sq (Rg [0, 1] ?_)
 refine Vs 1 <| Uq (dst := some 4) (ty := 4) (g := none) (by kernel_rfl) rfl (NF (t := 24) (t' := 24) (e := 3) (x := .tmp 3) (y := .const (.slice none 0 0)) (a := a0_0) (n := x0.length) (c := n0_0) rfl rfl (by kernel_rfl)) <| Nt ?_
 cases a0_0 with
 | none =>
  have hx : x0 = [] := by
   rcases hs0_0 with h | ⟨_, _, _, _, _, h, _⟩
   ·exact h
   ·cases h
  subst hx
  cases h
  refine C1 (rfl : true = true) <| Sq (Rg [0] ?_)
  refine Vs 1 <| Nt <| Rt <| Ae ?_
  exact ⟨rfl, _, AQ (l := [.tmp 2]) (by kernel_rfl) (vs := [.slice none 0 0]) ⟨by kernel_rfl, trivial⟩, _, F0, _, rfl, hs0.dummy (oc #[] 0), _, _, _, rfl, rfl, UI AH 3 F0 _⟩
 | some ad =>
  refine C0 (rfl : false = false) <| Sc <| Ab <| Sq (Rg (rG 4) ?_)
  refine Bs 3 [] hs0 (fun b w1 hs1 => ?_)
  refine Vs 1 <| Ap0 TX hs1 (UJ (T := AH) (E := 3) (F := F0) (l := []) (cs := []) rfl (by simp)) (SlA.rd hs1 hs0_0) h (fun a n e w2 hs2 hr2 => ?_)
  refine Vs 1 <| Nt <| Rt ?_
  exact ⟨rfl, _, AQ (l := [.tmp 2]) (by kernel_rfl) (vs := [.slice a r.length n]) ⟨by kernel_rfl, trivial⟩, _, F0, _, rfl, hs2, _, _, _, rfl, rfl, hr2⟩
def Cc (N : Nat) (x0 : List Line) : Option (List Line) := DR [] x0
theorem Bn : Af Tryz.prog 177 := fun _ _ => by kernel_rfl
set_option maxRecDepth 100000 in
theorem Bo (N : Nat) (w0 : World) (F0 : Mem) (hF : UQ w0 F0) (x0 : List Line) (a0_0 : UP) (n0_0 : Nat) (hb0_0 : LC x0.length n0_0) (hs0_0 : SlA AF F0 a0_0 x0) (r : List Line) (h : Cc N x0 = some r) :
  Calls Tryz.prog 177 ([(.slice a0_0 x0.length n0_0)] : List Value).toArray w0 (M3 w0 F0 fun F' v L' => ∃ (a : UP) (n : Nat) (e : Option Nat × Obj), v = .slice a r.length n /\ L' = [e] /\ Av AF 34 F' a n r e) := by
 have hs0 := Uv hF
 refine Go 8 Tryz.func177 <| Sq (Rg [0] ?_)
 refine Vs 1 <| Nt <| Sq <| Sq (Rg [0, 1] ?_)
 refine Vs 1 <| Uq (dst := some 4) (ty := 4) (g := none) (by kernel_rfl) rfl (NF (t := 25) (t' := 25) (e := 34) (x := .tmp 3) (y := .const (.slice none 0 0)) (a := a0_0) (n := x0.length) (c := n0_0) rfl rfl (by kernel_rfl)) <| Nt ?_
 cases a0_0 with
 | none =>
  have hx : x0 = [] := by
   rcases hs0_0 with h | ⟨_, _, _, _, _, h, _⟩
   ·exact h
   ·cases h
  subst hx
  cases h
  refine C1 (rfl : true = true) <| Sq (Rg [0] ?_)
  refine Vs 1 <| Nt <| Rt <| Ae ?_
  exact ⟨rfl, _, AQ (l := [.tmp 2]) (by kernel_rfl) (vs := [.slice none 0 0]) ⟨by kernel_rfl, trivial⟩, _, F0, _, rfl, hs0.dummy (oc #[] 0), _, _, _, rfl, rfl, UI AF 34 F0 _⟩
 | some ad =>
  refine C0 (rfl : false = false) <| Sc <| Ab <| Sq (Rg (rG 4) ?_)
  refine Bs 34 [] hs0 (fun b w1 hs1 => ?_)
  refine Vs 1 <| Ap0 Rw hs1 (UJ (T := AF) (E := 34) (F := F0) (l := []) (cs := []) rfl (by simp)) (SlA.rd hs1 hs0_0) h (fun a n e w2 hs2 hr2 => ?_)
  refine Vs 1 <| Nt <| Rt ?_
  exact ⟨rfl, _, AQ (l := [.tmp 2]) (by kernel_rfl) (vs := [.slice a r.length n]) ⟨by kernel_rfl, trivial⟩, _, F0, _, rfl, hs2, _, _, _, rfl, rfl, hr2⟩
def FS (N : Nat) (x0 : Ac) (x1 : Log) (x2 : (List Fix)) (r30 : (Int × Int)) (j47 : (List Int × List Line)) : (List Fix × Int × Bool × Bool × Bool × UO × Int × Int × Int × List Int × List Line) -> Option (Ba (Log × (List Fix) × Int × Int) (List Fix × Int × Bool × Bool × Bool × UO × Int × Int × Int × List Int × List Line)) := fun s180 =>
 (bif (decide (s180.2.1 < (x2.length : Int))) then ((idx x2 s180.2.1).bind fun x213 => (bif (x213.Kind == 1) then ((EX N ({ o_ := ({ Report := s180.2.2.1, Serial := s180.2.2.2.1, Zone := s180.2.2.2.2.1 } : Ac), l_ := ({ Call := s180.2.2.2.2.2.1, Category := s180.2.2.2.2.2.2.1, Power := s180.2.2.2.2.2.2.2.1, Claimed := s180.2.2.2.2.2.2.2.2.1, Jumps := s180.2.2.2.2.2.2.2.2.2.1, Lines := s180.2.2.2.2.2.2.2.2.2.2 } : Log) } : AZ) x213).bind fun r236 => (bif (!r236.2.2) then none else ((DR s180.1 [r236.2.1]).bind fun r256 => some (.next (r256, (W64 (s180.2.1 + 1)), r236.1.o_.Report, r236.1.o_.Serial, r236.1.o_.Zone, r236.1.l_.Call, r236.1.l_.Category, r236.1.l_.Power, r236.1.l_.Claimed, r236.1.l_.Jumps, r236.1.l_.Lines))))) else none)) else some (.done (s180.1, s180.2.1, s180.2.2.1, s180.2.2.2.1, s180.2.2.2.2.1, s180.2.2.2.2.2.1, s180.2.2.2.2.2.2.1, s180.2.2.2.2.2.2.2.1, s180.2.2.2.2.2.2.2.2.1, s180.2.2.2.2.2.2.2.2.2.1, s180.2.2.2.2.2.2.2.2.2.2)))
def HI (N : Nat) (x0 : Ac) (x1 : Log) (x2 : (List Fix)) : Option (Log × (List Fix) × Int × Int) :=
 ((Cw N ({ Report := x0.Report, Serial := x0.Serial, Zone := x0.Zone } : Ac) x1).bind fun r30 => (bif (r30.1 != 0) then none else (((EE N x1.Jumps).bind fun r55 => ((Cc N x1.Lines).bind fun r73 => some (r55, r73))).bind fun j47 => ((AO (FS N x0 x1 x2 r30 j47) N (([] : List Fix), 0, x0.Report, x0.Serial, x0.Zone, x1.Call, x1.Category, x1.Power, x1.Claimed, j47.1, j47.2)).bind fun o => o.k (fun r => some r) (fun s194 => (((CG N ({ Report := x0.Report, Serial := x0.Serial, Zone := x0.Zone } : Ac) ({ Call := s194.2.2.2.2.2.1, Category := s194.2.2.2.2.2.2.1, Power := s194.2.2.2.2.2.2.2.1, Claimed := s194.2.2.2.2.2.2.2.2.1, Jumps := s194.2.2.2.2.2.2.2.2.2.1, Lines := s194.2.2.2.2.2.2.2.2.2.2 } : Log)).bind fun r283 => some (!r283)).bind fun j274 => (bif j274 then none else some (({ Call := s194.2.2.2.2.2.1, Category := s194.2.2.2.2.2.2.1, Power := s194.2.2.2.2.2.2.2.1, Claimed := s194.2.2.2.2.2.2.2.2.1, Jumps := s194.2.2.2.2.2.2.2.2.2.1, Lines := s194.2.2.2.2.2.2.2.2.2.2 } : Log), s194.1, 0, 0))))))))
theorem J6 : Af Tryz.prog 120 := fun _ _ => by kernel_rfl
theorem K6 (N : Nat) (w0 : World) (F0 : Mem) (hF : UQ w0 F0) (hG : Bm F0) (x0 : Ac) (x1 : Log) (a1_4 : UP) (n1_4 : Nat) (hb1_4 : LC x1.Jumps.length n1_4) (hs1_4 : SlA AH F0 a1_4 x1.Jumps) (a1_5 : UP) (n1_5 : Nat) (hb1_5 : LC x1.Lines.length n1_5) (hs1_5 : SlA AF F0 a1_5 x1.Lines) (x2 : (List Fix)) (a2_0 : UP) (n2_0 : Nat) (hb2_0 : LC x2.length n2_0) (hs2_0 : SlA JD F0 a2_0 x2) (r : (Log × (List Fix) × Int × Int)) (h : HI N x0 x1 x2 = some r) :
  Calls Tryz.prog 120 ([(.agg (Ag x0)), (.agg (AC x1 a1_4 n1_4 a1_5 n1_5)), (.slice a2_0 x2.length n2_0)] : List Value).toArray w0 (M3 w0 F0 fun F' v L' => ∃ (aq0_4 : UP) (nq0_4 : Nat) (aq0_5 : UP) (nq0_5 : Nat) (eq0_5 : Option Nat × Obj) (aq1_0 : UP) (nq1_0 : Nat) (eq1_0 : Option Nat × Obj), v = (.tuple #[(.agg (AC r.1 aq0_4 nq0_4 aq0_5 nq0_5)), (.slice aq1_0 r.2.1.length nq1_0), (vi r.2.2.1), (vi r.2.2.2)]) /\ L' = [eq0_5, eq1_0] /\ LC r.1.Jumps.length nq0_4 /\ SlA AH F' aq0_4 r.1.Jumps /\ Av AF 34 F' aq0_5 nq0_5 r.1.Lines eq0_5 /\ Av JD 64 F' aq1_0 nq1_0 r.2.1 eq1_0) := by
 have hs0 := Uv hF
 refine Go 99 Tryz.func120 <| Sq (Rg (rG 6) ?_)
 refine Bx' 23 (Ag x0) hs0 (fun b21 w22 hs23 => ?_)
 refine Bx' 27 (AC x1 a1_4 n1_4 a1_5 n1_5) hs23 (fun b24 w25 hs26 => ?_)
 refine Al' 27 #[(sv (([] : UO))), (vi 0), (vi 0), (vi 0), (.slice none ([] : List Int).length 0), (.slice none ([] : List Line).length 0)] hs26 (fun b27 w28 hs29 => ?_)
 refine Vs 3 <| Nss <| Sq (Rg (rG 8) ?_)
 refine Ld hs29.at2 <| Ld hs29.at1 ?_
 obtain ⟨r30, hr31, h32⟩ := bind_some h
 refine Cl' EA hs29 (E8 N w28 F0 hs29.pers hG (({ Report := x0.Report, Serial := x0.Serial, Zone := x0.Zone } : Ac)) x1 a1_4 n1_4 hb1_4 hs1_4 a1_5 n1_5 hb1_5 hs1_5 _ hr31) ?_
 rintro _ F1 w34 hs35 le36 rfl
 refine Vs 5 <| Nss (Rg [0, 1] ?_)
 refine Vs 2 <| Nt <| Cd h32 (fun hb38 h39 => ?_) (fun hb38 h40 => ?_)
 ·cases h39
 ·refine Sc ?_
  refine Ab <| Sq ?_
  obtain ⟨j47, hj53, h54⟩ := bind_some h40
  refine RD 9 10 [(sb b27 #[(sv (([] : UO))), (vi 0), (vi 0), (vi 0), (.slice none ([] : List Int).length 0), (.slice none ([] : List Line).length 0)] 27), (sb b21 (Ag x0) 23)] [] hs35 (fun f w => ∃ (F2 : Mem) (aj47_0 : UP) (nj47_0 : Nat) (aj47_1 : UP) (nj47_1 : Nat) (ej47_1 : Option Nat × Obj), HS w0 F0 w F2 [ej47_1, (sb b27 #[(sv (([] : UO))), (vi 0), (vi 0), (vi 0), (.slice none ([] : List Int).length 0), (.slice none ([] : List Line).length 0)] 27), (sb b24 #[(sv x1.Call), (vi x1.Category), (vi x1.Power), (vi x1.Claimed), (.slice aj47_0 j47.1.length nj47_0), (.slice aj47_1 j47.2.length nj47_1)] 27), (sb b21 (Ag x0) 23)] /\ Ut F1 F2 /\ FI f [] [(2, (.slice a2_0 x2.length n2_0)), (3, (pt b21 0)), (4, (pt b24 0)), (6, (pt b27 0))] /\ LC j47.1.length nj47_0 /\ SlA AH F2 aj47_0 j47.1 /\ Av AF 34 F2 aj47_1 nj47_1 j47.2 ej47_1) (fun wd41 hw42 => ?_) ?_
  ·refine Dv [0, 3] ?_
   refine UC (i := 1) (j := 4) (by kernel_rfl) ?_ ?_
   ·refine UD (l' := [true, true, false, true, false, false, false, false, false, false]) (zd := false) (by kernel_rfl) (by kernel_rfl) (dst := (some 32)) (ty := 24) (g := none) (by kernel_rfl) rfl (Bu (t := 24) (x := (.tmp 31)) (b := b24) (o := 4) (g := false) (s := 1) (C := (AC x1 a1_4 n1_4 a1_5 n1_5)) (v := (.slice a1_4 x1.Jumps.length n1_4)) rfl (by kernel_rfl) hw42.at1 rfl rfl rfl) (A5 hw42 (Uu _) (by simp) (fun _ => by simp)) ?_
    refine UC (i := 2) (j := 4) (by kernel_rfl) ?_ ?_
    ·obtain ⟨r55, hr56, h57⟩ := bind_some hj53
     refine Aw.callO (l' := [true, true, true, true, false, false, false, false, false, false]) (zd := false) (by kernel_rfl) (by kernel_rfl) (by kernel_rfl) (dst := (some 33)) (ty := 24) (g := none) (by kernel_rfl) rfl (f0 := (.func 176)) (aos := #[(.tmp 32)]) (ats := #[24]) (fid := 176) (first := #[]) (cap := #[]) (args := [(.slice a1_4 x1.Jumps.length n1_4)]) rfl Ci rfl hw42 (Cy N wd41 F1 hw42.pers x1.Jumps a1_4 n1_4 hb1_4 (Uw hs1_4 le36) _ hr56) ?_
     rintro _ F3 w59 _ hs60 le61 ⟨a63, n64, e65, rfl, rfl, hr66⟩
     have hs68 : HS w0 F0 w59 F3 [e65, (sb b27 #[(sv (([] : UO))), (vi 0), (vi 0), (vi 0), (.slice none ([] : List Int).length 0), (.slice none ([] : List Line).length 0)] 27), (sb b24 (AC x1 a1_4 n1_4 a1_5 n1_5) 27), (sb b21 (Ag x0) 23)] := hs60
     have hb72 := UH hr66
     obtain ⟨F4, hs69, le70, hs71⟩ := hs68.fr0 hr66
     refine D1 4 <| UD (l' := [true, true, true, true, true, false, false, false, false, false]) (zd := false) (by kernel_rfl) (by kernel_rfl) (dst := (some 35)) (ty := 25) (g := none) (by kernel_rfl) rfl (Bu (t := 25) (x := (.tmp 34)) (b := b24) (o := 5) (g := false) (s := 1) (C := (AC x1 a1_4 n1_4 a1_5 n1_5)) (v := (.slice a1_5 x1.Lines.length n1_5)) rfl (by kernel_rfl) hs69.at1 rfl rfl rfl) (A5 hs69 (le61.t le70) (by simp) (fun _ => by simp)) <| Dv [6] <| D1 5 ?_
     obtain ⟨r73, hr74, h75⟩ := bind_some h57
     refine Aw.callO (l' := [true, true, true, true, true, true, true, false, false, false]) (zd := false) (by kernel_rfl) (by kernel_rfl) (by kernel_rfl) (dst := (some 36)) (ty := 25) (g := none) (by kernel_rfl) rfl (f0 := (.func 177)) (aos := #[(.tmp 35)]) (ats := #[25]) (fid := 177) (first := #[]) (cap := #[]) (args := [(.slice a1_5 x1.Lines.length n1_5)]) rfl Bn rfl hs69 (Bo N w59 F4 hs69.pers x1.Lines a1_5 n1_5 hb1_5 (Uw hs1_5 ((le36.t le61).trans le70)) _ hr74) ?_
     rintro _ F5 w77 _ hs78 le79 ⟨a81, n82, e83, rfl, rfl, hr84⟩
     have hs86 : HS w0 F0 w77 F5 [e83, (sb b27 #[(sv (([] : UO))), (vi 0), (vi 0), (vi 0), (.slice none ([] : List Int).length 0), (.slice none ([] : List Line).length 0)] 27), (sb b24 (AC x1 a1_4 n1_4 a1_5 n1_5) 27), (sb b21 (Ag x0) 23)] := hs78
     refine D1 7 <| NA #[(sv x1.Call), (vi x1.Category), (vi x1.Power), (vi x1.Claimed), (.slice a63 r55.length n64), (.slice a1_5 x1.Lines.length n1_5)] hs86 ((le61.t le70).trans le79) (fun w87 hs88 => ?_)
     refine Dv [8] <| D1 9 <| NA #[(sv x1.Call), (vi x1.Category), (vi x1.Power), (vi x1.Claimed), (.slice a63 r55.length n64), (.slice a81 r73.length n82)] hs88 ((le61.t le70).trans le79) (fun w89 hs90 => ?_)
     obtain rfl := Aa h75
     exact UG (by kernel_rfl) ⟨F5, a63, n64, a81, n82, e83, hs90, ((le61.t le70).trans le79), fI, hb72, (Uw hs71 le79), hr84⟩
    ·refine UD (l' := [true, true, false, true, true, false, false, false, false, false]) (zd := false) (by kernel_rfl) (by kernel_rfl) (dst := (some 35)) (ty := 25) (g := none) (by kernel_rfl) rfl (Bu (t := 25) (x := (.tmp 34)) (b := b24) (o := 5) (g := false) (s := 1) (C := (AC x1 a1_4 n1_4 a1_5 n1_5)) (v := (.slice a1_5 x1.Lines.length n1_5)) rfl (by kernel_rfl) hw42.at1 rfl rfl rfl) (A5 hw42 (Uu _) (by simp) (fun _ => by simp)) ?_
     refine D1 2 ?_
     obtain ⟨r91, hr92, h93⟩ := bind_some hj53
     refine Aw.callO (l' := [true, true, true, true, true, false, false, false, false, false]) (zd := false) (by kernel_rfl) (by kernel_rfl) (by kernel_rfl) (dst := (some 33)) (ty := 24) (g := none) (by kernel_rfl) rfl (f0 := (.func 176)) (aos := #[(.tmp 32)]) (ats := #[24]) (fid := 176) (first := #[]) (cap := #[]) (args := [(.slice a1_4 x1.Jumps.length n1_4)]) rfl Ci rfl hw42 (Cy N wd41 F1 hw42.pers x1.Jumps a1_4 n1_4 hb1_4 (Uw hs1_4 le36) _ hr92) ?_
     rintro _ F6 w95 _ hs96 le97 ⟨a99, n100, e101, rfl, rfl, hr102⟩
     have hs104 : HS w0 F0 w95 F6 [e101, (sb b27 #[(sv (([] : UO))), (vi 0), (vi 0), (vi 0), (.slice none ([] : List Int).length 0), (.slice none ([] : List Line).length 0)] 27), (sb b24 (AC x1 a1_4 n1_4 a1_5 n1_5) 27), (sb b21 (Ag x0) 23)] := hs96
     have hb108 := UH hr102
     obtain ⟨F7, hs105, le106, hs107⟩ := hs104.fr0 hr102
     refine Dv [6] <| D1 5 ?_
     obtain ⟨r109, hr110, h111⟩ := bind_some h93
     refine Aw.callO (l' := [true, true, true, true, true, true, true, false, false, false]) (zd := false) (by kernel_rfl) (by kernel_rfl) (by kernel_rfl) (dst := (some 36)) (ty := 25) (g := none) (by kernel_rfl) rfl (f0 := (.func 177)) (aos := #[(.tmp 35)]) (ats := #[25]) (fid := 177) (first := #[]) (cap := #[]) (args := [(.slice a1_5 x1.Lines.length n1_5)]) rfl Bn rfl hs105 (Bo N w95 F7 hs105.pers x1.Lines a1_5 n1_5 hb1_5 (Uw hs1_5 ((le36.t le97).trans le106)) _ hr110) ?_
     rintro _ F8 w113 _ hs114 le115 ⟨a117, n118, e119, rfl, rfl, hr120⟩
     have hs122 : HS w0 F0 w113 F8 [e119, (sb b27 #[(sv (([] : UO))), (vi 0), (vi 0), (vi 0), (.slice none ([] : List Int).length 0), (.slice none ([] : List Line).length 0)] 27), (sb b24 (AC x1 a1_4 n1_4 a1_5 n1_5) 27), (sb b21 (Ag x0) 23)] := hs114
     refine D1 7 <| NA #[(sv x1.Call), (vi x1.Category), (vi x1.Power), (vi x1.Claimed), (.slice a99 r91.length n100), (.slice a1_5 x1.Lines.length n1_5)] hs122 ((le97.t le106).trans le115) (fun w123 hs124 => ?_)
     refine Dv [8] <| D1 9 <| NA #[(sv x1.Call), (vi x1.Category), (vi x1.Power), (vi x1.Claimed), (.slice a99 r91.length n100), (.slice a117 r109.length n118)] hs124 ((le97.t le106).trans le115) (fun w125 hs126 => ?_)
     obtain rfl := Aa h111
     exact UG (by kernel_rfl) ⟨F8, a99, n100, a117, n118, e119, hs126, ((le97.t le106).trans le115), fI, hb108, (Uw hs107 le115), hr120⟩
   ·refine UD (l' := [true, false, false, true, true, false, false, false, false, false]) (zd := false) (by kernel_rfl) (by kernel_rfl) (dst := (some 35)) (ty := 25) (g := none) (by kernel_rfl) rfl (Bu (t := 25) (x := (.tmp 34)) (b := b24) (o := 5) (g := false) (s := 1) (C := (AC x1 a1_4 n1_4 a1_5 n1_5)) (v := (.slice a1_5 x1.Lines.length n1_5)) rfl (by kernel_rfl) hw42.at1 rfl rfl rfl) (A5 hw42 (Uu _) (by simp) (fun _ => by simp)) ?_
    refine D1 1 <| UD (l' := [true, true, false, true, true, false, false, false, false, false]) (zd := false) (by kernel_rfl) (by kernel_rfl) (dst := (some 32)) (ty := 24) (g := none) (by kernel_rfl) rfl (Bu (t := 24) (x := (.tmp 31)) (b := b24) (o := 4) (g := false) (s := 1) (C := (AC x1 a1_4 n1_4 a1_5 n1_5)) (v := (.slice a1_4 x1.Jumps.length n1_4)) rfl (by kernel_rfl) hw42.at1 rfl rfl rfl) (A5 hw42 (Uu _) (by simp) (fun _ => by simp)) <| D1 2 ?_
    obtain ⟨r127, hr128, h129⟩ := bind_some hj53
    refine Aw.callO (l' := [true, true, true, true, true, false, false, false, false, false]) (zd := false) (by kernel_rfl) (by kernel_rfl) (by kernel_rfl) (dst := (some 33)) (ty := 24) (g := none) (by kernel_rfl) rfl (f0 := (.func 176)) (aos := #[(.tmp 32)]) (ats := #[24]) (fid := 176) (first := #[]) (cap := #[]) (args := [(.slice a1_4 x1.Jumps.length n1_4)]) rfl Ci rfl hw42 (Cy N wd41 F1 hw42.pers x1.Jumps a1_4 n1_4 hb1_4 (Uw hs1_4 le36) _ hr128) ?_
    rintro _ F9 w131 _ hs132 le133 ⟨a135, n136, e137, rfl, rfl, hr138⟩
    have hs140 : HS w0 F0 w131 F9 [e137, (sb b27 #[(sv (([] : UO))), (vi 0), (vi 0), (vi 0), (.slice none ([] : List Int).length 0), (.slice none ([] : List Line).length 0)] 27), (sb b24 (AC x1 a1_4 n1_4 a1_5 n1_5) 27), (sb b21 (Ag x0) 23)] := hs132
    have hb144 := UH hr138
    obtain ⟨F10, hs141, le142, hs143⟩ := hs140.fr0 hr138
    refine Dv [6] <| D1 5 ?_
    obtain ⟨r145, hr146, h147⟩ := bind_some h129
    refine Aw.callO (l' := [true, true, true, true, true, true, true, false, false, false]) (zd := false) (by kernel_rfl) (by kernel_rfl) (by kernel_rfl) (dst := (some 36)) (ty := 25) (g := none) (by kernel_rfl) rfl (f0 := (.func 177)) (aos := #[(.tmp 35)]) (ats := #[25]) (fid := 177) (first := #[]) (cap := #[]) (args := [(.slice a1_5 x1.Lines.length n1_5)]) rfl Bn rfl hs141 (Bo N w131 F10 hs141.pers x1.Lines a1_5 n1_5 hb1_5 (Uw hs1_5 ((le36.t le133).trans le142)) _ hr146) ?_
    rintro _ F11 w149 _ hs150 le151 ⟨a153, n154, e155, rfl, rfl, hr156⟩
    have hs158 : HS w0 F0 w149 F11 [e155, (sb b27 #[(sv (([] : UO))), (vi 0), (vi 0), (vi 0), (.slice none ([] : List Int).length 0), (.slice none ([] : List Line).length 0)] 27), (sb b24 (AC x1 a1_4 n1_4 a1_5 n1_5) 27), (sb b21 (Ag x0) 23)] := hs150
    refine D1 7 <| NA #[(sv x1.Call), (vi x1.Category), (vi x1.Power), (vi x1.Claimed), (.slice a135 r127.length n136), (.slice a1_5 x1.Lines.length n1_5)] hs158 ((le133.t le142).trans le151) (fun w159 hs160 => ?_)
    refine Dv [8] <| D1 9 <| NA #[(sv x1.Call), (vi x1.Category), (vi x1.Power), (vi x1.Claimed), (.slice a135 r127.length n136), (.slice a153 r145.length n154)] hs160 ((le133.t le142).trans le151) (fun w161 hs162 => ?_)
    obtain rfl := Aa h147
    exact UG (by kernel_rfl) ⟨F11, a135, n136, a153, n154, e155, hs162, ((le133.t le142).trans le151), fI, hb144, (Uw hs143 le151), hr156⟩
  ·rintro f w43 ⟨F2, aj47_0, nj47_0, aj47_1, nj47_1, ej47_1, hs44, le45, ⟨_, rfl⟩, hbj47_0, hsj47_0, hrj47_1⟩
   refine Ab <| Sq (Rg (rG 5) ?_)
   refine Ld hs44.at3 <| Ld hs44.at2 <| Vs 1 <| Bx' 214 #[(.bool x0.Report), (.bool x0.Serial), (.bool x0.Zone), (sv x1.Call), (vi x1.Category), (vi x1.Power), (vi x1.Claimed), (.slice aj47_0 j47.1.length nj47_0), (.slice aj47_1 j47.2.length nj47_1)] hs44 (fun b163 w164 hs165 => ?_)
   refine Vs 1 <| Nss (Rg (rG 12) ?_)
   refine RWP.litMap (dst := (some 43)) (ty := 216) (g := none) (by kernel_rfl) rfl (t := 216) hs165 (fun b166 w167 (hs168 : HS w0 F0 w167 F2 [(some b166, (.map #[] 0)), (sb b163 #[(.bool x0.Report), (.bool x0.Serial), (.bool x0.Zone), (sv x1.Call), (vi x1.Category), (vi x1.Power), (vi x1.Claimed), (.slice aj47_0 j47.1.length nj47_0), (.slice aj47_1 j47.2.length nj47_1)] 214), ej47_1, (sb b27 #[(sv (([] : UO))), (vi 0), (vi 0), (vi 0), (.slice none ([] : List Int).length 0), (.slice none ([] : List Line).length 0)] 27), (sb b24 #[(sv x1.Call), (vi x1.Category), (vi x1.Power), (vi x1.Claimed), (.slice aj47_0 j47.1.length nj47_0), (.slice aj47_1 j47.2.length nj47_1)] 27), (sb b21 (Ag x0) 23)]) => ?_)
   refine Vs 2 <| RWP.litIns (d := .int .i64) (k := 3) (vt := 215) (ty := 0) (g := none) (mt := 216) (m := (.tmp 43)) (x := (.const (vi 1))) (y := (.tmp 45)) (b := b166) (q := 0) (kv := (vi 1)) (v := (.func (.func 178) #[(pt b163 0)] #[])) (by kernel_rfl) rfl rfl rfl rfl (by kernel_rfl) (by kernel_rfl) rfl (by kernel_rfl) hs168 rfl rfl (fun w169 (hs170 : HS w0 F0 w169 F2 [(some b166, (.map #[⟨(vi 1), (.func (.func 178) #[(pt b163 0)] #[]), 0⟩] 1)), (sb b163 #[(.bool x0.Report), (.bool x0.Serial), (.bool x0.Zone), (sv x1.Call), (vi x1.Category), (vi x1.Power), (vi x1.Claimed), (.slice aj47_0 j47.1.length nj47_0), (.slice aj47_1 j47.2.length nj47_1)] 214), ej47_1, (sb b27 #[(sv (([] : UO))), (vi 0), (vi 0), (vi 0), (.slice none ([] : List Int).length 0), (.slice none ([] : List Line).length 0)] 27), (sb b24 #[(sv x1.Call), (vi x1.Category), (vi x1.Power), (vi x1.Claimed), (.slice aj47_0 j47.1.length nj47_0), (.slice aj47_1 j47.2.length nj47_1)] 27), (sb b21 (Ag x0) 23)]) => ?_)
   refine Vs 2 <| RWP.litIns (d := .int .i64) (k := 3) (vt := 215) (ty := 0) (g := none) (mt := 216) (m := (.tmp 43)) (x := (.const (vi 2))) (y := (.tmp 47)) (b := b166) (q := 0) (kv := (vi 2)) (v := (.func (.func 179) #[(pt b163 0)] #[])) (by kernel_rfl) rfl rfl rfl rfl (by kernel_rfl) (by kernel_rfl) rfl (by kernel_rfl) hs170 rfl rfl (fun w171 (hs172 : HS w0 F0 w171 F2 [(some b166, (.map #[⟨(vi 1), (.func (.func 178) #[(pt b163 0)] #[]), 0⟩, ⟨(vi 2), (.func (.func 179) #[(pt b163 0)] #[]), 1⟩] 2)), (sb b163 #[(.bool x0.Report), (.bool x0.Serial), (.bool x0.Zone), (sv x1.Call), (vi x1.Category), (vi x1.Power), (vi x1.Claimed), (.slice aj47_0 j47.1.length nj47_0), (.slice aj47_1 j47.2.length nj47_1)] 214), ej47_1, (sb b27 #[(sv (([] : UO))), (vi 0), (vi 0), (vi 0), (.slice none ([] : List Int).length 0), (.slice none ([] : List Line).length 0)] 27), (sb b24 #[(sv x1.Call), (vi x1.Category), (vi x1.Power), (vi x1.Claimed), (.slice aj47_0 j47.1.length nj47_0), (.slice aj47_1 j47.2.length nj47_1)] 27), (sb b21 (Ag x0) 23)]) => ?_)
   refine Vs 2 <| RWP.litIns (d := .int .i64) (k := 3) (vt := 215) (ty := 0) (g := none) (mt := 216) (m := (.tmp 43)) (x := (.const (vi 3))) (y := (.tmp 49)) (b := b166) (q := 0) (kv := (vi 3)) (v := (.func (.func 180) #[(pt b163 0)] #[])) (by kernel_rfl) rfl rfl rfl rfl (by kernel_rfl) (by kernel_rfl) rfl (by kernel_rfl) hs172 rfl rfl (fun w173 (hs174 : HS w0 F0 w173 F2 [(some b166, (.map #[⟨(vi 1), (.func (.func 178) #[(pt b163 0)] #[]), 0⟩, ⟨(vi 2), (.func (.func 179) #[(pt b163 0)] #[]), 1⟩, ⟨(vi 3), (.func (.func 180) #[(pt b163 0)] #[]), 2⟩] 3)), (sb b163 #[(.bool x0.Report), (.bool x0.Serial), (.bool x0.Zone), (sv x1.Call), (vi x1.Category), (vi x1.Power), (vi x1.Claimed), (.slice aj47_0 j47.1.length nj47_0), (.slice aj47_1 j47.2.length nj47_1)] 214), ej47_1, (sb b27 #[(sv (([] : UO))), (vi 0), (vi 0), (vi 0), (.slice none ([] : List Int).length 0), (.slice none ([] : List Line).length 0)] 27), (sb b24 #[(sv x1.Call), (vi x1.Category), (vi x1.Power), (vi x1.Claimed), (.slice aj47_0 j47.1.length nj47_0), (.slice aj47_1 j47.2.length nj47_1)] 27), (sb b21 (Ag x0) 23)]) => ?_)
   refine Vs 2 <| Nss (Rg [0] ?_)
   refine Vs 1 <| Nss <| Sq (Rg [0, 1, 2] ?_)
   refine Vs 3 <| Nt ?_
   have hs175 := hs174.dr4.dummy (oc #[] 0)
   obtain ⟨o177, ho178, h179⟩ := bind_some h54
   refine UA (fun f w => ∃ (s194 : (List Fix × Int × Bool × Bool × Bool × UO × Int × Int × Int × List Int × List Line)) (F13 : Mem) (as194_9 : UP) (ns194_9 : Nat) (as194_10 : UP) (ns194_10 : Nat) (es194_10 : Option Nat × Obj) (as194_0 : UP) (ns194_0 : Nat) (es194_0 : Option Nat × Obj), o177 = .done s194 /\ HS w0 F0 w F13 [es194_0, (sb b163 #[(.bool s194.2.2.1), (.bool s194.2.2.2.1), (.bool s194.2.2.2.2.1), (sv s194.2.2.2.2.2.1), (vi s194.2.2.2.2.2.2.1), (vi s194.2.2.2.2.2.2.2.1), (vi s194.2.2.2.2.2.2.2.2.1), (.slice as194_9 s194.2.2.2.2.2.2.2.2.2.1.length ns194_9), (.slice as194_10 s194.2.2.2.2.2.2.2.2.2.2.length ns194_10)] 214), es194_10, (sb b27 #[(sv (([] : UO))), (vi 0), (vi 0), (vi 0), (.slice none ([] : List Int).length 0), (.slice none ([] : List Line).length 0)] 27), (sb b21 (Ag x0) 23)] /\ Ut F2 F13 /\ FI f [] [(2, (.slice a2_0 x2.length n2_0)), (3, (pt b21 0)), (6, (pt b27 0)), (12, (pt b163 0)), (14, (.slice as194_0 s194.1.length ns194_0))] /\ LC s194.2.2.2.2.2.2.2.2.2.1.length ns194_9 /\ SlA AH F13 as194_9 s194.2.2.2.2.2.2.2.2.2.1 /\ Av AF 34 F13 as194_10 ns194_10 s194.2.2.2.2.2.2.2.2.2.2 es194_10 /\ Av JD 64 F13 as194_0 ns194_0 s194.1 es194_0) ?_ ?_
   ·refine Bk ?_
    refine Us (by kernel_rfl) (fun m f w => ∃ (s180 : (List Fix × Int × Bool × Bool × Bool × UO × Int × Int × Int × List Int × List Line)) (F12 : Mem) (as180_9 : UP) (ns180_9 : Nat) (as180_10 : UP) (ns180_10 : Nat) (es180_10 : Option Nat × Obj) (as180_0 : UP) (ns180_0 : Nat) (es180_0 : Option Nat × Obj), AO (FS N x0 x1 x2 r30 j47) m s180 = some o177 /\ HS w0 F0 w F12 [es180_0, (some b166, (.map #[⟨(vi 1), (.func (.func 178) #[(pt b163 0)] #[]), 0⟩, ⟨(vi 2), (.func (.func 179) #[(pt b163 0)] #[]), 1⟩, ⟨(vi 3), (.func (.func 180) #[(pt b163 0)] #[]), 2⟩] 3)), (sb b163 #[(.bool s180.2.2.1), (.bool s180.2.2.2.1), (.bool s180.2.2.2.2.1), (sv s180.2.2.2.2.2.1), (vi s180.2.2.2.2.2.2.1), (vi s180.2.2.2.2.2.2.2.1), (vi s180.2.2.2.2.2.2.2.2.1), (.slice as180_9 s180.2.2.2.2.2.2.2.2.2.1.length ns180_9), (.slice as180_10 s180.2.2.2.2.2.2.2.2.2.2.length ns180_10)] 214), es180_10, (sb b27 #[(sv (([] : UO))), (vi 0), (vi 0), (vi 0), (.slice none ([] : List Int).length 0), (.slice none ([] : List Line).length 0)] 27), (sb b21 (Ag x0) 23)] /\ Ut F2 F12 /\ FI f [] [(2, (.slice a2_0 x2.length n2_0)), (3, (pt b21 0)), (6, (pt b27 0)), (12, (pt b163 0)), (13, (.map (some b166))), (14, (.slice as180_0 s180.1.length ns180_0)), (51, (.slice a2_0 x2.length n2_0)), (52, (vi (x2.length : Int))), (53, (vi s180.2.1))] /\ LC s180.2.2.2.2.2.2.2.2.2.1.length ns180_9 /\ SlA AH F12 as180_9 s180.2.2.2.2.2.2.2.2.2.1 /\ Av AF 34 F12 as180_10 ns180_10 s180.2.2.2.2.2.2.2.2.2.2 es180_10 /\ Av JD 64 F12 as180_0 ns180_0 s180.1 es180_0) N ⟨(([] : List Fix), 0, x0.Report, x0.Serial, x0.Zone, x1.Call, x1.Category, x1.Power, x1.Claimed, j47.1, j47.2), F2, aj47_0, nj47_0, aj47_1, nj47_1, ej47_1, none, 0, (none, .cells #[] 0 (0, 0)), ho178, hs175, (Uu _), fI, hbj47_0, hsj47_0, hrj47_1, (UI JD 64 F2 _)⟩ ?_
    rintro m204 f w181 ⟨s180, F12, as180_9, ns180_9, as180_10, ns180_10, es180_10, as180_0, ns180_0, es180_0, hit205, hs182, le183, ⟨_, rfl⟩, hbs180_9, hss180_9, hrs180_10, hrs180_0⟩
    obtain ⟨m206, fl207, rfl, hb208, hnx209⟩ := AD hit205
    refine Sq (Rg [0] ?_)
    refine Vs 1 <| Nss <| Cd hb208 (fun hb210 h211 => ?_) (fun hb210 h212 => ?_)
    ·refine Sc ?_
     refine Ab <| Sq <| Bk <| Sq (Rg (rG 6) ?_)
     refine Vs 1 ?_
     obtain ⟨x213, hx214, h216⟩ := bind_some h211
     obtain ⟨hi215, hx214'⟩ := Ak hx214
     obtain ⟨b217, o218, C219, E220, fz221, rfl, hF223, hE224⟩ := UB (Uw hs2_0 ((le36.t le45).trans le183)) hx214'
     have hc226 := hE224 _ _ hx214'
     refine Ix hi215 <| Lx 0 (hs182.pers _ _ hF223) hc226 <| Al' 64 #[(vi 0), (vi 0), (vi 0), (vi 0), (vi 0), (vi 0), (sv (([] : UO))), (vi 0), (vi 0), (vi 0), (vi 0), (vi 0), (vi 0)] hs182 (fun b227 w228 hs229 => ?_)
     refine Vs 1 <| St0 (O0 x213) hs229 (fun w230 hs231 => ?_)
     refine Nss (Rg (rG 9) ?_)
     refine Vs 2 <| Ld hs231.at0 <| Sp h216 (fun hb232 h233 => ?_) (fun hb232 h234 => ?_)
     ·refine V 62 217 (N7 (mt := 216) (k := 3) (vt := 215) (d := .int .i64) (m := (.tmp 59)) (x := (.tmp 61)) (b := b166) (kv := (vi x213.Kind)) (v := (.func (.func 178) #[(pt b163 0)] #[])) (j := 0) rfl rfl (by kernel_rfl) (by kernel_rfl) rfl (hs231.ownAt (k := 2) rfl) (TD hb232)) ?_
      refine Vs 5 <| Nss <| Sq (Rg [0, 1] ?_)
      refine Vs 2 <| Nt <| C0 (rfl : false = false) <| Sc <| Ab <| Sq (Rg (rG 9) ?_)
      refine Vs 1 <| Ld hs231.at0 ?_
      have hs235 := hs231.pk6.pk6.pk4.pk4.pk4
      obtain ⟨r236, hr237, h238⟩ := bind_some h233
      refine CB G2 (Hv N b163 (({ o_ := ({ Report := s180.2.2.1, Serial := s180.2.2.2.1, Zone := s180.2.2.2.2.1 } : Ac), l_ := ({ Call := s180.2.2.2.2.2.1, Category := s180.2.2.2.2.2.2.1, Power := s180.2.2.2.2.2.2.2.1, Claimed := s180.2.2.2.2.2.2.2.2.1, Jumps := s180.2.2.2.2.2.2.2.2.2.1, Lines := s180.2.2.2.2.2.2.2.2.2.2 } : Log) } : AZ)) as180_9 ns180_9 as180_10 ns180_10 es180_10 hbs180_9 hss180_9 hrs180_10 x213 hs235.pk6.pk6 _ hr237) ?_
      rintro _ F14 w239 _ hs240 le241 ⟨ar236_0_7, nr236_0_7, ar236_0_8, nr236_0_8, er236_0_8, rfl, rfl, hbr236_0_7, hsr236_0_7, hrr236_0_8⟩
      refine Vs 3 <| Al' 64 #[(vi 0), (vi 0), (vi 0), (vi 0), (vi 0), (vi 0), (sv (([] : UO))), (vi 0), (vi 0), (vi 0), (vi 0), (vi 0), (vi 0)] hs240 (fun b243 w244 hs245 => ?_)
      refine St0 (O0 r236.2.1) hs245 (fun w246 hs247 => ?_)
      refine Vs 1 <| Nss <| Sq (Rg [0, 1] ?_)
      refine Vs 2 <| Nt <| Cd h238 (fun hb248 h249 => ?_) (fun hb248 h250 => ?_)
      ·cases h249
      ·refine Sc ?_
       refine Ab <| Rg (rG 5) <| Vs 1 <| Ld hs247.at0 <| Bs 64 [(vi r236.2.1.Kind), (vi r236.2.1.Num), (vi r236.2.1.Line.Num), (vi r236.2.1.Line.Khz), (vi r236.2.1.Line.Mode), (vi r236.2.1.Line.Minute), (sv r236.2.1.Line.Call), (vi r236.2.1.Line.Sent.Report), (vi r236.2.1.Line.Sent.Serial), (vi r236.2.1.Line.Sent.Zone), (vi r236.2.1.Line.Got.Report), (vi r236.2.1.Line.Got.Serial), (vi r236.2.1.Line.Got.Zone)] hs247 (fun b251 w252 hs253 => ?_)
       have hr255 : Av JD 64 F14 (some ⟨b251, 0, none⟩) 1 [r236.2.1] (some b251, .cells ([(vi r236.2.1.Kind), (vi r236.2.1.Num), (vi r236.2.1.Line.Num), (vi r236.2.1.Line.Khz), (vi r236.2.1.Line.Mode), (vi r236.2.1.Line.Minute), (sv r236.2.1.Line.Call), (vi r236.2.1.Line.Sent.Report), (vi r236.2.1.Line.Sent.Serial), (vi r236.2.1.Line.Sent.Zone), (vi r236.2.1.Line.Got.Report), (vi r236.2.1.Line.Got.Serial), (vi r236.2.1.Line.Got.Zone)] : List Value).toArray 64 (0, 0)) := UJ ⟨rfl, rfl⟩ (by simp)
       obtain ⟨r256, hap257, h258⟩ := bind_some h250
       refine Ap5 Ue hs253 (hrs180_0.mono le241) (hs253.rd0 hr255) hap257 (fun a259 n260 e261 w262 hs263 hr264 => ?_)
       refine Vs 1 <| Up <| Aq <| Ab <| Rg [0, 1] <| Vs 2 <| Up ?_
       have hs265 := hs263.dr0.dr0.dr2.pk5.pk5
       have hn266 := AJ h258 hnx209
       exact ⟨m206, Nat.lt_succ_self _, (r256, (W64 (s180.2.1 + 1)), r236.1.o_.Report, r236.1.o_.Serial, r236.1.o_.Zone, r236.1.l_.Call, r236.1.l_.Category, r236.1.l_.Power, r236.1.l_.Claimed, r236.1.l_.Jumps, r236.1.l_.Lines), F14, ar236_0_7, nr236_0_7, ar236_0_8, nr236_0_8, er236_0_8, a259, n260, e261, hn266, hs265.pk3.pk3.pk5.pk5, (le183.t le241), fI, hbr236_0_7, hsr236_0_7, hrr236_0_8, hr264⟩
     ·cases h234
    ·refine Ex ?_
     refine Ao <| Ao <| Ay rfl ?_
     have ho267 := AE h212 hnx209
     exact .inl ⟨rfl, (s180.1, s180.2.1, s180.2.2.1, s180.2.2.2.1, s180.2.2.2.2.1, s180.2.2.2.2.2.1, s180.2.2.2.2.2.2.1, s180.2.2.2.2.2.2.2.1, s180.2.2.2.2.2.2.2.2.1, s180.2.2.2.2.2.2.2.2.2.1, s180.2.2.2.2.2.2.2.2.2.2), F12, as180_9, ns180_9, as180_10, ns180_10, es180_10, as180_0, ns180_0, es180_0, ho267, hs182.dr1, le183, fI, hbs180_9, hss180_9, hrs180_10, hrs180_0⟩
   ·rintro f w195 ⟨s194, F13, as194_9, ns194_9, as194_10, ns194_10, es194_10, as194_0, ns194_0, es194_0, rfl, hs196, le197, ⟨_, rfl⟩, hbs194_9, hss194_9, hrs194_10, hrs194_0⟩
    have h268 := Bc h179
    refine Ab <| Sq <| Sq ?_
    obtain ⟨j274, hj281, h282⟩ := bind_some h268
    refine RD 7 7 [es194_0, (sb b163 #[(.bool s194.2.2.1), (.bool s194.2.2.2.1), (.bool s194.2.2.2.2.1), (sv s194.2.2.2.2.2.1), (vi s194.2.2.2.2.2.2.1), (vi s194.2.2.2.2.2.2.2.1), (vi s194.2.2.2.2.2.2.2.2.1), (.slice as194_9 s194.2.2.2.2.2.2.2.2.2.1.length ns194_9), (.slice as194_10 s194.2.2.2.2.2.2.2.2.2.2.length ns194_10)] 214), es194_10, (sb b27 #[(sv (([] : UO))), (vi 0), (vi 0), (vi 0), (.slice none ([] : List Int).length 0), (.slice none ([] : List Line).length 0)] 27), (sb b21 (Ag x0) 23)] [] hs196 (fun f w => ∃ (F15 : Mem), HS w0 F0 w F15 [es194_0, (sb b163 #[(.bool s194.2.2.1), (.bool s194.2.2.2.1), (.bool s194.2.2.2.2.1), (sv s194.2.2.2.2.2.1), (vi s194.2.2.2.2.2.2.1), (vi s194.2.2.2.2.2.2.2.1), (vi s194.2.2.2.2.2.2.2.2.1), (.slice as194_9 s194.2.2.2.2.2.2.2.2.2.1.length ns194_9), (.slice as194_10 s194.2.2.2.2.2.2.2.2.2.2.length ns194_10)] 214), es194_10, (sb b27 #[(sv (([] : UO))), (vi 0), (vi 0), (vi 0), (.slice none ([] : List Int).length 0), (.slice none ([] : List Line).length 0)] 27)] /\ Ut F13 F15 /\ FI f [] [(2, (.slice a2_0 x2.length n2_0)), (6, (pt b27 0)), (12, (pt b163 0)), (14, (.slice as194_0 s194.1.length ns194_0)), (90, (.bool j274))]) (fun wd269 hw270 => ?_) ?_
    ·refine Dl 0 (fun _ hq => (hq.1.2 4 _ _ rfl)) ?_
     refine Dv [1, 2, 3] <| Dl 4 (fun _ hq => (hq.1.2 1 _ _ rfl)) <| D1 5 ?_
     obtain ⟨r283, hr284, h285⟩ := bind_some hj281
     refine Aw.callLentP (l' := [true, true, true, true, true, true, false]) (zd := true) (by kernel_rfl) (by kernel_rfl) (by kernel_rfl) (q := 2) (v0 := (.bool r283)) (dst := (some 89)) (ty := 4) (g := none) (by kernel_rfl) rfl (f0 := (.func 25)) (aos := #[(.tmp 84), (.tmp 88)]) (ats := #[23, 27]) (fid := 25) (first := #[]) (cap := #[]) (args := [(.agg (Ag x0)), (.agg #[(sv s194.2.2.2.2.2.1), (vi s194.2.2.2.2.2.2.1), (vi s194.2.2.2.2.2.2.2.1), (vi s194.2.2.2.2.2.2.2.2.1), (.slice as194_9 s194.2.2.2.2.2.2.2.2.2.1.length ns194_9), (.slice as194_10 s194.2.2.2.2.2.2.2.2.2.2.length ns194_10)])]) rfl GH rfl hw270 rfl (Hn N wd269 (G9 F13 es194_10) (HS.lend hw270 (q := 2) rfl).2 (hG.mono (((le36.t le45).trans le197).trans (HS.lend hw270 (q := 2) rfl).1)) ({ Report := x0.Report, Serial := x0.Serial, Zone := x0.Zone } : Ac) ({ Call := s194.2.2.2.2.2.1, Category := s194.2.2.2.2.2.2.1, Power := s194.2.2.2.2.2.2.2.1, Claimed := s194.2.2.2.2.2.2.2.2.1, Jumps := s194.2.2.2.2.2.2.2.2.2.1, Lines := s194.2.2.2.2.2.2.2.2.2.2 } : Log) as194_9 ns194_9 hbs194_9 (Uw hss194_9 (HS.lend hw270 (q := 2) rfl).1) as194_10 ns194_10 (UH hrs194_10) (Av.freeze hrs194_10 (HS.lend hw270 (q := 2) rfl).1) _ hr284) (fun F16 w286 (hs287 : HS w0 F0 w286 F16 [es194_0, (sb b163 #[(.bool s194.2.2.1), (.bool s194.2.2.2.1), (.bool s194.2.2.2.2.1), (sv s194.2.2.2.2.2.1), (vi s194.2.2.2.2.2.2.1), (vi s194.2.2.2.2.2.2.2.1), (vi s194.2.2.2.2.2.2.2.2.1), (.slice as194_9 s194.2.2.2.2.2.2.2.2.2.1.length ns194_9), (.slice as194_10 s194.2.2.2.2.2.2.2.2.2.2.length ns194_10)] 214), es194_10, (sb b27 #[(sv (([] : UO))), (vi 0), (vi 0), (vi 0), (.slice none ([] : List Int).length 0), (.slice none ([] : List Line).length 0)] 27), (sb b21 (Ag x0) 23)]) le288 => ?_)
     refine Dv [6] ?_
     obtain rfl := Aa h285
     exact UG (by kernel_rfl) ⟨F16, hs287.dr4, le288, fI⟩
    ·rintro f w271 ⟨F15, hs272, le273, ⟨_, rfl⟩⟩
     refine Ab <| Cd h282 (fun hb289 h290 => ?_) (fun hb289 h291 => ?_)
     ·cases h290
     ·refine Sc ?_
      refine Ab <| Sq (Rg (rG 9) ?_)
      refine Vs 3 <| Ld hs272.at1 <| Vs 1 <| St3 #[(sv s194.2.2.2.2.2.1), (vi s194.2.2.2.2.2.2.1), (vi s194.2.2.2.2.2.2.2.1), (vi s194.2.2.2.2.2.2.2.2.1), (.slice as194_9 s194.2.2.2.2.2.2.2.2.2.1.length ns194_9), (.slice as194_10 s194.2.2.2.2.2.2.2.2.2.2.length ns194_10)] hs272 (fun w292 hs293 => ?_)
      refine Vs 3 <| Nt <| Rt ?_
      obtain rfl := Aa h291
      exact ⟨rfl, (.tuple #[(.agg #[(sv s194.2.2.2.2.2.1), (vi s194.2.2.2.2.2.2.1), (vi s194.2.2.2.2.2.2.2.1), (vi s194.2.2.2.2.2.2.2.2.1), (.slice as194_9 s194.2.2.2.2.2.2.2.2.2.1.length ns194_9), (.slice as194_10 s194.2.2.2.2.2.2.2.2.2.2.length ns194_10)]), (.slice as194_0 s194.1.length ns194_0), (vi 0), (vi 0)]), AQ (l := [.cell 6 27, .tmp 7, .tmp 8, .tmp 9]) (by kernel_rfl) (vs := [(.agg #[(sv s194.2.2.2.2.2.1), (vi s194.2.2.2.2.2.2.1), (vi s194.2.2.2.2.2.2.2.1), (vi s194.2.2.2.2.2.2.2.2.1), (.slice as194_9 s194.2.2.2.2.2.2.2.2.2.1.length ns194_9), (.slice as194_10 s194.2.2.2.2.2.2.2.2.2.2.length ns194_10)]), (.slice as194_0 s194.1.length ns194_0), (vi 0), (vi 0)]) ⟨b27, 0, rfl, Am (t := 27) (g := true) (s := 6) (by kernel_rfl) hs293.at3 rfl (by decide), ⟨rfl, ⟨rfl, ⟨rfl, trivial⟩⟩⟩⟩, (.tuple #[(.agg #[(sv s194.2.2.2.2.2.1), (vi s194.2.2.2.2.2.2.1), (vi s194.2.2.2.2.2.2.2.1), (vi s194.2.2.2.2.2.2.2.2.1), (.slice as194_9 s194.2.2.2.2.2.2.2.2.2.1.length ns194_9), (.slice as194_10 s194.2.2.2.2.2.2.2.2.2.2.length ns194_10)]), (.slice as194_0 s194.1.length ns194_0), (vi 0), (vi 0)]), F15, _, rfl, hs293.dr1.dr2.pk1, ⟨as194_9, ns194_9, as194_10, ns194_10, es194_10, as194_0, ns194_0, es194_0, rfl, rfl, hbs194_9, (Uw hss194_9 le273), (hrs194_10.mono le273), (hrs194_0.mono le273)⟩⟩
theorem DO {N : Nat} {x r : List Fix} (h : A7 N x = some r) : r.length = x.length := by
 unfold A7 at h
 obtain ⟨o, ho, h⟩ := bind_some h
 obtain ⟨s1, hI, hb, _⟩ := O2 (fun s => s.2.2.length = x.length) (fun s s' hI hs => by
  unfold A0 at hs
  rcases NV hs with ⟨_, hs⟩ | ⟨_, hs⟩
  ·cases hs
  ·cases hs) (by rfl) ho
 unfold A0 at hb
 rcases NV hb with ⟨_, hb⟩ | ⟨_, hb⟩
 ·cases hb
 ·cases hb; cases h; exact hI
def Ls (N : Nat) (x0 : Ac) (x1 : Log) (x2 : (List Fix)) : Option ((List Fix) × Int) :=
 ((HI N ({ Report := x0.Report, Serial := x0.Serial, Zone := x0.Zone } : Ac) x1 x2).bind fun r27 => ((A7 N r27.2.1).bind fun r41 => some (r41, r27.2.2.1)))
theorem ML : Af Tryz.prog 53 := fun _ _ => by kernel_rfl
theorem Ns (N : Nat) (w0 : World) (F0 : Mem) (hF : UQ w0 F0) (hG : Bm F0) (x0 : Ac) (x1 : Log) (a1_4 : UP) (n1_4 : Nat) (hb1_4 : LC x1.Jumps.length n1_4) (hs1_4 : SlA AH F0 a1_4 x1.Jumps) (a1_5 : UP) (n1_5 : Nat) (hb1_5 : LC x1.Lines.length n1_5) (hs1_5 : SlA AF F0 a1_5 x1.Lines) (x2 : (List Fix)) (a2_0 : UP) (n2_0 : Nat) (hb2_0 : LC x2.length n2_0) (hs2_0 : SlA JD F0 a2_0 x2) (r : ((List Fix) × Int)) (h : Ls N x0 x1 x2 = some r) :
  Calls Tryz.prog 53 ([(.agg (Ag x0)), (.agg (AC x1 a1_4 n1_4 a1_5 n1_5)), (.slice a2_0 x2.length n2_0)] : List Value).toArray w0 (AA w0 F0 fun F' v => ∃ (aq0_0 : UP) (nq0_0 : Nat), v = (.tuple #[(.slice aq0_0 r.1.length nq0_0), (vi r.2)]) /\ LC r.1.length nq0_0 /\ SlA JD F' aq0_0 r.1) := by
 have hs0 := Uv hF
 refine Go 25 Tryz.func53 <| Sq (Rg (rG 4) ?_)
 refine Bx' 23 (Ag x0) hs0 (fun b21 w22 hs23 => ?_)
 refine Bx' 27 (AC x1 a1_4 n1_4 a1_5 n1_5) hs23 (fun b24 w25 hs26 => ?_)
 refine Vs 2 <| Nss (Rg (rG 14) ?_)
 refine Ld hs26.at1 <| Ld hs26.at0 <| Vs 1 ?_
 obtain ⟨r27, hr28, h29⟩ := bind_some h
 refine RWP.callO (dst := (some 16)) (ty := 162) (g := none) (by kernel_rfl) rfl (f0 := (.func 120)) (aos := #[(.tmp 13), (.tmp 14), (.tmp 15)]) (ats := #[23, 27, 60]) (fid := 120) (first := #[]) (cap := #[]) (args := [(.agg (Ag x0)), (.agg (AC x1 a1_4 n1_4 a1_5 n1_5)), (.slice a2_0 x2.length n2_0)]) rfl J6 rfl hs26 (K6 N w25 F0 hs26.pers hG (({ Report := x0.Report, Serial := x0.Serial, Zone := x0.Zone } : Ac)) x1 a1_4 n1_4 hb1_4 hs1_4 a1_5 n1_5 hb1_5 hs1_5 x2 a2_0 n2_0 hb2_0 hs2_0 _ hr28) ?_
 rintro _ F1 w31 _ hs32 le33 ⟨ar27_0_4, nr27_0_4, ar27_0_5, nr27_0_5, er27_0_5, ar27_1_0, nr27_1_0, er27_1_0, rfl, rfl, hbr27_0_4, hsr27_0_4, hrr27_0_5, hrr27_1_0⟩
 have hs35 : HS w0 F0 w31 F1 [er27_0_5, er27_1_0, (sb b24 (AC x1 a1_4 n1_4 a1_5 n1_5) 27), (sb b21 (Ag x0) 23)] := hs32
 refine Vs 5 <| Al' 27 #[(sv (([] : UO))), (vi 0), (vi 0), (vi 0), (.slice none ([] : List Int).length 0), (.slice none ([] : List Line).length 0)] hs35 (fun b36 w37 hs38 => ?_)
 refine St0 (AC r27.1 ar27_0_4 nr27_0_4 ar27_0_5 nr27_0_5) hs38 (fun w39 hs40 => ?_)
 refine Vs 3 <| Nss (Rg [0, 1] ?_)
 refine Vs 1 ?_
 obtain ⟨r41, hr42, h43⟩ := bind_some h29
 refine RWP.callS (dst := (some 22)) (ty := 0) (g := none) (by kernel_rfl) rfl (f0 := (.func 126)) (aos := #[(.tmp 21)]) (ats := #[60]) (fid := 126) (first := #[]) (cap := #[]) (args := [(.slice ar27_1_0 r27.2.1.length nr27_1_0)]) rfl DP rfl (Ed N (Lf := [(sb b36 (AC r27.1 ar27_0_4 nr27_0_4 ar27_0_5 nr27_0_5) 27), er27_0_5, (sb b24 (AC x1 a1_4 n1_4 a1_5 n1_5) 27), (sb b21 (Ag x0) 23)]) r27.2.1 ar27_1_0 nr27_1_0 er27_1_0 hrr27_1_0 hs40.pk4.pk4.pk3.pk3.pk4  _ hr42) ?_
 rintro _ w45 ⟨F2, e44, rfl, hs46, le47, hr48⟩
 refine ⟨_, rfl, ?_⟩
 have hs49 : HS w0 F0 w45 F2 [e44, (sb b36 (AC r27.1 ar27_0_4 nr27_0_4 ar27_0_5 nr27_0_5) 27), er27_0_5, (sb b24 (AC x1 a1_4 n1_4 a1_5 n1_5) 27), (sb b21 (Ag x0) 23)] := hs46
 refine Nss (Rg (rG 4) ?_)
 refine V 23 60 (mv 9 (.slice ar27_1_0 r41.length nr27_1_0) (Tu rfl (DO hr42))) <| Vs 3 <| Nt <| Rt ?_
 have hb53 := UH hr48
 obtain ⟨F3, hs50, le51, hs52⟩ := hs49.fr0 hr48
 obtain rfl := Aa h43
 exact Re [(.slice ar27_1_0 r41.length nr27_1_0), (vi r27.2.2.1)] hs50 ⟨ar27_1_0, nr27_1_0, rfl, hb53, hs52⟩
def C8 (N : Nat)  : Option Ac :=
 some ({ Report := true, Serial := true, Zone := false } : Ac)
theorem B4 : Af Tryz.prog 71 := fun _ _ => by kernel_rfl
theorem Cl (N : Nat) (w0 : World) (F0 : Mem) (hF : UQ w0 F0)  (r : Ac) (h : C8 N  = some r) :
  Calls Tryz.prog 71 ([] : List Value).toArray w0 (AA w0 F0 fun F' v => v = (.agg (Ag r))) := by
 have hs0 := Uv hF
 refine Go 2 Tryz.func71 <| Sq (Rg [0] ?_)
 refine Al' 23 #[(.bool false), (.bool false), (.bool false)] hs0 (fun b21 w22 hs23 => ?_)
 refine Nss (Rg [0, 1] ?_)
 refine Vs 1 <| St0 #[(.bool true), (.bool true), (.bool false)] hs23 (fun w24 hs25 => ?_)
 refine Nt <| Rt ?_
 obtain rfl := Aa h
 exact ⟨rfl, (.agg #[(.bool true), (.bool true), (.bool false)]), AQ (l := [.cell 0 23]) (by kernel_rfl) (vs := [(.agg #[(.bool true), (.bool true), (.bool false)])]) ⟨b21, 0, rfl, Am (t := 23) (g := true) (s := 3) (by kernel_rfl) hs25.at0 rfl (by decide), trivial⟩, (.agg #[(.bool true), (.bool true), (.bool false)]), F0, rfl, hs25.clear, rfl⟩
def D5 (N : Nat)  : Option Log :=
 some ({ Call := ([68, 76, 49, 88, 89] : UO), Category := 1, Power := 100, Claimed := 20, Jumps := ([] : List Int), Lines := [({ Num := 7, Khz := 14025, Mode := 1, Minute := 75, Call := ([75, 49, 65, 66, 67] : UO), Sent := ({ Report := 599, Serial := 12, Zone := 0 } : Ad), Got := ({ Report := 599, Serial := 3, Zone := 0 } : Ad) } : Line)] } : Log)
theorem DD : Af Tryz.prog 72 := fun _ _ => by kernel_rfl
theorem Ee (N : Nat) (w0 : World) (F0 : Mem) (hF : UQ w0 F0)  (r : Log) (h : D5 N  = some r) :
  Calls Tryz.prog 72 ([] : List Value).toArray w0 (AA w0 F0 fun F' v => ∃ (aq0_4 : UP) (nq0_4 : Nat) (aq0_5 : UP) (nq0_5 : Nat), v = (.agg (AC r aq0_4 nq0_4 aq0_5 nq0_5)) /\ LC r.Jumps.length nq0_4 /\ SlA AH F' aq0_4 r.Jumps /\ LC r.Lines.length nq0_5 /\ SlA AF F' aq0_5 r.Lines) := by
 have hs0 := Uv hF
 refine Go 8 Tryz.func72 <| Sq (Rg [0] ?_)
 refine Al' 27 #[(sv (([] : UO))), (vi 0), (vi 0), (vi 0), (.slice none ([] : List Int).length 0), (.slice none ([] : List Line).length 0)] hs0 (fun b21 w22 hs23 => ?_)
 refine Nss (Rg (rG 5) ?_)
 refine Vs 3 <| Al' 34 #[(vi 0), (vi 0), (vi 0), (vi 0), (sv (([] : UO))), (vi 0), (vi 0), (vi 0), (vi 0), (vi 0), (vi 0)] hs23 (fun b24 w25 hs26 => ?_)
 refine St0 #[(vi 7), (vi 14025), (vi 1), (vi 75), (sv (([75, 49, 65, 66, 67] : UO))), (vi 599), (vi 12), (vi 0), (vi 599), (vi 3), (vi 0)] hs26 (fun w27 hs28 => ?_)
 refine Nss (Rg (rG 4) ?_)
 refine Ld hs28.at0 <| Bs 34 [(vi 7), (vi 14025), (vi 1), (vi 75), (sv (([75, 49, 65, 66, 67] : UO))), (vi 599), (vi 12), (vi 0), (vi 599), (vi 3), (vi 0)] hs28 (fun b29 w30 hs31 => ?_)
 have hr33 : Av AF 34 F0 (some ⟨b29, 0, none⟩) 1 [({ Num := 7, Khz := 14025, Mode := 1, Minute := 75, Call := ([75, 49, 65, 66, 67] : UO), Sent := ({ Report := 599, Serial := 12, Zone := 0 } : Ad), Got := ({ Report := 599, Serial := 3, Zone := 0 } : Ad) } : Line)] (some b29, .cells ([(vi 7), (vi 14025), (vi 1), (vi 75), (sv (([75, 49, 65, 66, 67] : UO))), (vi 599), (vi 12), (vi 0), (vi 599), (vi 3), (vi 0)] : List Value).toArray 34 (0, 0)) := UJ ⟨rfl, rfl⟩ (by simp)
 refine Vs 1 <| St2 #[(sv (([68, 76, 49, 88, 89] : UO))), (vi 1), (vi 100), (vi 20), (.slice none ([] : List Int).length 0), (.slice (some ⟨b29, 0, none⟩) [({ Num := 7, Khz := 14025, Mode := 1, Minute := 75, Call := ([75, 49, 65, 66, 67] : UO), Sent := ({ Report := 599, Serial := 12, Zone := 0 } : Ad), Got := ({ Report := 599, Serial := 3, Zone := 0 } : Ad) } : Line)].length 1)] hs31 (fun w34 hs35 => ?_)
 refine Nt <| Rt ?_
 have hb39 := UH hr33
 obtain ⟨F1, hs36, le37, hs38⟩ := hs35.fr0 hr33
 obtain rfl := Aa h
 exact ⟨rfl, (.agg #[(sv (([68, 76, 49, 88, 89] : UO))), (vi 1), (vi 100), (vi 20), (.slice none ([] : List Int).length 0), (.slice (some ⟨b29, 0, none⟩) [({ Num := 7, Khz := 14025, Mode := 1, Minute := 75, Call := ([75, 49, 65, 66, 67] : UO), Sent := ({ Report := 599, Serial := 12, Zone := 0 } : Ad), Got := ({ Report := 599, Serial := 3, Zone := 0 } : Ad) } : Line)].length 1)]), AQ (l := [.cell 0 27]) (by kernel_rfl) (vs := [(.agg #[(sv (([68, 76, 49, 88, 89] : UO))), (vi 1), (vi 100), (vi 20), (.slice none ([] : List Int).length 0), (.slice (some ⟨b29, 0, none⟩) [({ Num := 7, Khz := 14025, Mode := 1, Minute := 75, Call := ([75, 49, 65, 66, 67] : UO), Sent := ({ Report := 599, Serial := 12, Zone := 0 } : Ad), Got := ({ Report := 599, Serial := 3, Zone := 0 } : Ad) } : Line)].length 1)])]) ⟨b21, 0, rfl, Am (t := 27) (g := true) (s := 6) (by kernel_rfl) hs36.at1 rfl (by decide), trivial⟩, (.agg #[(sv (([68, 76, 49, 88, 89] : UO))), (vi 1), (vi 100), (vi 20), (.slice none ([] : List Int).length 0), (.slice (some ⟨b29, 0, none⟩) [({ Num := 7, Khz := 14025, Mode := 1, Minute := 75, Call := ([75, 49, 65, 66, 67] : UO), Sent := ({ Report := 599, Serial := 12, Zone := 0 } : Ad), Got := ({ Report := 599, Serial := 3, Zone := 0 } : Ad) } : Line)].length 1)]), F1, rfl, hs36.clear, ⟨none, 0, (some ⟨b29, 0, none⟩), 1, rfl, Ux, (.inl rfl), hb39, hs38⟩⟩
def JS (N : Nat)  : Option Bool :=
 ((C8 N ).bind fun r21 => ((D5 N ).bind fun r29 => ((Mz N ({ Report := r21.Report, Serial := r21.Serial, Zone := r21.Zone } : Ac) r29).bind fun r37 => ((C8 N ).bind fun r45 => ((Jj N ({ Report := r45.Report, Serial := r45.Serial, Zone := r45.Zone } : Ac) ([67, 65, 76, 76, 32, 68, 76, 49, 88, 89, 10, 67, 65, 84, 69, 71, 79, 82, 89, 32, 49, 10, 80, 79, 87, 69, 82, 32, 49, 48, 48, 10, 67, 76, 65, 73, 77, 69, 68, 32, 50, 48, 10, 74, 85, 77, 80, 83, 10, 81, 83, 79, 32, 55, 32, 49, 52, 48, 50, 53, 32, 77, 32, 49, 32, 48, 49, 49, 53, 32, 75, 49, 65, 66, 67, 32, 62, 32, 53, 57, 57, 32, 48, 49, 50, 32, 60, 32, 53, 57, 57, 32, 48, 48, 51, 10, 69, 78, 68, 10] : UO)).bind fun r53 => (((JE ([67, 65, 76, 76, 32, 68, 76, 49, 88, 89, 10, 67, 65, 84, 69, 71, 79, 82, 89, 32, 49, 10, 80, 79, 87, 69, 82, 32, 49, 48, 48, 10, 67, 76, 65, 73, 77, 69, 68, 32, 50, 48, 10, 74, 85, 77, 80, 83, 10, 81, 83, 79, 32, 55, 32, 49, 52, 48, 50, 53, 32, 77, 32, 49, 32, 48, 49, 49, 53, 32, 75, 49, 65, 66, 67, 32, 62, 32, 53, 57, 57, 32, 48, 49, 50, 32, 60, 32, 53, 57, 57, 32, 48, 48, 51, 10, 69, 78, 68, 10] : UO) 0 96).bind fun r81 => ((C8 N ).bind fun r84 => ((Jj N ({ Report := r84.Report, Serial := r84.Serial, Zone := r84.Zone } : Ac) r81).bind fun r92 => some (r92.2.1, r92.2.2)))).bind fun j71 => ((C8 N ).bind fun r139 => ((Lp N ({ Report := r139.Report, Serial := r139.Serial, Zone := r139.Zone } : Ac) ([67, 65, 76, 76, 32, 68, 76, 49, 88, 89, 10, 67, 65, 84, 69, 71, 79, 82, 89, 32, 49, 10, 67, 76, 65, 73, 77, 69, 68, 32, 50, 48, 10, 74, 85, 77, 80, 83, 10, 81, 83, 79, 32, 55, 32, 49, 52, 48, 50, 53, 32, 77, 32, 49, 32, 48, 49, 49, 53, 32, 75, 49, 65, 66, 67, 32, 62, 32, 53, 57, 57, 32, 48, 49, 50, 32, 60, 32, 53, 57, 57, 32, 48, 48, 51, 10, 101, 110, 100, 10] : UO)).bind fun r147 => ((C8 N ).bind fun r155 => ((D5 N ).bind fun r163 => ((Ls N ({ Report := r155.Report, Serial := r155.Serial, Zone := r155.Zone } : Ac) r163 ([({ Kind := 1, Num := 7, Line := ({ Num := 0, Khz := 0, Mode := 0, Minute := 0, Call := ([] : UO), Sent := ({ Report := 0, Serial := 0, Zone := 0 } : Ad), Got := ({ Report := 0, Serial := 0, Zone := 0 } : Ad) } : Line) } : Fix)])).bind fun r180 => (bif ((r37.2 != 0) || ((r53.2.1 != 0) || ((j71.1 != 20) || ((r147.2.2.2 != 0) || ((r180.2 != 0) || ((j71.2 != 7) || ((r180.1.length : Int) != 1))))))) then some false else ((bif (r37.1 == ([67, 65, 76, 76, 32, 68, 76, 49, 88, 89, 10, 67, 65, 84, 69, 71, 79, 82, 89, 32, 49, 10, 80, 79, 87, 69, 82, 32, 49, 48, 48, 10, 67, 76, 65, 73, 77, 69, 68, 32, 50, 48, 10, 74, 85, 77, 80, 83, 10, 81, 83, 79, 32, 55, 32, 49, 52, 48, 50, 53, 32, 77, 32, 49, 32, 48, 49, 49, 53, 32, 75, 49, 65, 66, 67, 32, 62, 32, 53, 57, 57, 32, 48, 49, 50, 32, 60, 32, 53, 57, 57, 32, 48, 48, 51, 10, 69, 78, 68, 10] : UO)) then ((D5 N ).bind fun r220 => ((Mo N r53.1 r220).bind fun r228 => (bif r228 then (bif (r147.2.2.1 == 7) then (bif ((r147.2.1.length : Int) == 7) then ((idx r180.1 0).bind fun x245 => ((D5 N ).bind fun r259 => ((idx r259.Lines 0).bind fun x267 => some ((x245.Line.Num == x267.Num) && ((x245.Line.Khz == x267.Khz) && ((x245.Line.Mode == x267.Mode) && ((x245.Line.Minute == x267.Minute) && ((x245.Line.Call == x267.Call) && (((x245.Line.Sent.Report == x267.Sent.Report) && ((x245.Line.Sent.Serial == x267.Sent.Serial) && ((x245.Line.Sent.Zone == x267.Sent.Zone) && true))) && (((x245.Line.Got.Report == x267.Got.Report) && ((x245.Line.Got.Serial == x267.Got.Serial) && ((x245.Line.Got.Zone == x267.Got.Zone) && true))) && true)))))))))) else some false) else some false) else some false))) else some false).bind fun j212 => some j212)))))))))))))
theorem LS : Af Tryz.prog 19 := fun _ _ => by kernel_rfl
theorem MZ (N : Nat) (w0 : World) (F0 : Mem) (hF : UQ w0 F0) (hG : Bm F0)  (r : Bool) (h : JS N  = some r) :
  Calls Tryz.prog 19 ([] : List Value).toArray w0 (AA w0 F0 fun F' v => v = (.bool r)) := by
 have hs0 := Uv hF
 refine Go 103 Tryz.func19 <| Sq (Rg [0] ?_)
 refine Vs 1 <| Nss (Rg (rG 8) ?_)
 obtain ⟨r21, hr22, h23⟩ := bind_some h
 refine Cl' B4 hs0 (Cl N w0 F0 hs0.pers  _ hr22) ?_
 rintro _ F1 w25 hs26 le27 rfl
 obtain ⟨r29, hr30, h31⟩ := bind_some h23
 refine Cl' DD hs26 (Ee N w25 F1 hs26.pers  _ hr30) ?_
 rintro _ F2 w33 hs34 le35 ⟨ar29_0_4, nr29_0_4, ar29_0_5, nr29_0_5, rfl, hbr29_0_4, hsr29_0_4, hbr29_0_5, hsr29_0_5⟩
 obtain ⟨r37, hr38, h39⟩ := bind_some h31
 refine Cl' Nj hs34 (OD N w33 F2 hs34.pers (hG.mono (le27.t le35)) (({ Report := r21.Report, Serial := r21.Serial, Zone := r21.Zone } : Ac)) r29 ar29_0_4 nr29_0_4 hbr29_0_4 hsr29_0_4 ar29_0_5 nr29_0_5 hbr29_0_5 hsr29_0_5 _ hr38) ?_
 rintro _ F3 w41 hs42 le43 rfl
 refine Vs 5 <| Nss (Rg (rG 10) ?_)
 obtain ⟨r45, hr46, h47⟩ := bind_some h39
 refine Cl' B4 hs42 (Cl N w41 F3 hs42.pers  _ hr46) ?_
 rintro _ F4 w49 hs50 le51 rfl
 obtain ⟨r53, hr54, h55⟩ := bind_some h47
 refine Cl' Ez hs50 (E7 N w49 F4 hs50.pers (hG.mono (((le27.t le35).trans le43).trans le51)) (({ Report := r45.Report, Serial := r45.Serial, Zone := r45.Zone } : Ac)) (([67, 65, 76, 76, 32, 68, 76, 49, 88, 89, 10, 67, 65, 84, 69, 71, 79, 82, 89, 32, 49, 10, 80, 79, 87, 69, 82, 32, 49, 48, 48, 10, 67, 76, 65, 73, 77, 69, 68, 32, 50, 48, 10, 74, 85, 77, 80, 83, 10, 81, 83, 79, 32, 55, 32, 49, 52, 48, 50, 53, 32, 77, 32, 49, 32, 48, 49, 49, 53, 32, 75, 49, 65, 66, 67, 32, 62, 32, 53, 57, 57, 32, 48, 49, 50, 32, 60, 32, 53, 57, 57, 32, 48, 48, 51, 10, 69, 78, 68, 10] : UO)) _ hr54) ?_
 rintro _ F5 w57 hs58 le59 ⟨ar53_0_4, nr53_0_4, ar53_0_5, nr53_0_5, rfl, hbr53_0_4, hsr53_0_4, hbr53_0_5, hsr53_0_5⟩
 refine Vs 4 <| Al' 27 #[(sv (([] : UO))), (vi 0), (vi 0), (vi 0), (.slice none ([] : List Int).length 0), (.slice none ([] : List Line).length 0)] hs58 (fun b61 w62 hs63 => ?_)
 refine St0 (AC r53.1 ar53_0_4 nr53_0_4 ar53_0_5 nr53_0_5) hs63 (fun w64 hs65 => ?_)
 refine Vs 2 <| Nss ?_
 obtain ⟨j71, hj79, h80⟩ := bind_some h55
 refine RD 11 11 [(sb b61 (AC r53.1 ar53_0_4 nr53_0_4 ar53_0_5 nr53_0_5) 27)] [] hs65 (fun f w => ∃ (F6 : Mem), HS w0 F0 w F6 [(sb b61 (AC r53.1 ar53_0_4 nr53_0_4 ar53_0_5 nr53_0_5) 27)] /\ Ut F5 F6 /\ FI f [] [(1, (sv r37.1)), (2, (vi r37.2)), (3, (pt b61 0)), (4, (vi r53.2.1)), (7, (vi j71.1)), (8, (vi j71.2))]) (fun wd66 hw67 => ?_) ?_
 ·obtain ⟨r81, hr82, h83⟩ := bind_some hj79
  refine Dt 1 29 9 (sv r81) (fun _ hq => Fg (t := 9) (x := (.const (sv ([67, 65, 76, 76, 32, 68, 76, 49, 88, 89, 10, 67, 65, 84, 69, 71, 79, 82, 89, 32, 49, 10, 80, 79, 87, 69, 82, 32, 49, 48, 48, 10, 67, 76, 65, 73, 77, 69, 68, 32, 50, 48, 10, 74, 85, 77, 80, 83, 10, 81, 83, 79, 32, 55, 32, 49, 52, 48, 50, 53, 32, 77, 32, 49, 32, 48, 49, 49, 53, 32, 75, 49, 65, 66, 67, 32, 62, 32, 53, 57, 57, 32, 48, 49, 50, 32, 60, 32, 53, 57, 57, 32, 48, 48, 51, 10, 69, 78, 68, 10] : UO)))) (lo := none) (hi := (some (.const (vi 96)))) (a := ([67, 65, 76, 76, 32, 68, 76, 49, 88, 89, 10, 67, 65, 84, 69, 71, 79, 82, 89, 32, 49, 10, 80, 79, 87, 69, 82, 32, 49, 48, 48, 10, 67, 76, 65, 73, 77, 69, 68, 32, 50, 48, 10, 74, 85, 77, 80, 83, 10, 81, 83, 79, 32, 55, 32, 49, 52, 48, 50, 53, 32, 77, 32, 49, 32, 48, 49, 49, 53, 32, 75, 49, 65, 66, 67, 32, 62, 32, 53, 57, 57, 32, 48, 49, 50, 32, 60, 32, 53, 57, 57, 32, 48, 48, 51, 10, 69, 78, 68, 10] : UO)) (il := 0) (ih := 96) (v := r81) rfl (by kernel_rfl) rfl rfl hr82) <| UC (i := 0) (j := 7) (by kernel_rfl) ?_ ?_
  ·obtain ⟨r84, hr85, h86⟩ := bind_some h83
   refine DCl B4 hw67 (Cl N wd66 F5 hw67.pers  _ hr85) ?_
   rintro _ F7 w88 hs89 le90 rfl
   refine UC (i := 2) (j := 7) (by kernel_rfl) ?_ ?_
   ·obtain ⟨r92, hr93, h94⟩ := bind_some h86
    refine DCl Ez hs89 (E7 N w88 F7 hs89.pers (hG.mono (((((le27.t le35).trans le43).trans le51).trans le59).trans le90)) (({ Report := r84.Report, Serial := r84.Serial, Zone := r84.Zone } : Ac)) r81 _ hr93) ?_
    rintro _ F8 w96 hs97 le98 ⟨ar92_0_4, nr92_0_4, ar92_0_5, nr92_0_5, rfl, hbr92_0_4, hsr92_0_4, hbr92_0_5, hsr92_0_5⟩
    refine Dv [3, 4, 5, 6] <| D1 7 <| DAl 27 #[(sv (([] : UO))), (vi 0), (vi 0), (vi 0), (.slice none ([] : List Int).length 0), (.slice none ([] : List Line).length 0)] hs97 (le90.t le98) (fun b100 w101 hs102 => ?_)
    refine D1 8 <| Gq (AC r92.1 ar92_0_4 nr92_0_4 ar92_0_5 nr92_0_5) hs102 (le90.t le98) (fun w103 hs104 => ?_)
    refine Dv [9, 10] ?_
    obtain rfl := Aa h94
    exact UG (by kernel_rfl) ⟨F8, hs104.dr0, (le90.t le98), fI⟩
   ·refine DAl 27 #[(sv (([] : UO))), (vi 0), (vi 0), (vi 0), (.slice none ([] : List Int).length 0), (.slice none ([] : List Line).length 0)] hs89 le90 (fun b105 w106 hs107 => ?_)
    refine D1 2 ?_
    obtain ⟨r108, hr109, h110⟩ := bind_some h86
    refine DCl Ez hs107 (E7 N w106 F7 hs107.pers (hG.mono (((((le27.t le35).trans le43).trans le51).trans le59).trans le90)) (({ Report := r84.Report, Serial := r84.Serial, Zone := r84.Zone } : Ac)) r81 _ hr109) ?_
    rintro _ F9 w112 hs113 le114 ⟨ar108_0_4, nr108_0_4, ar108_0_5, nr108_0_5, rfl, hbr108_0_4, hsr108_0_4, hbr108_0_5, hsr108_0_5⟩
    refine Dv [3, 4, 5, 6] <| D1 8 <| Gq (AC r108.1 ar108_0_4 nr108_0_4 ar108_0_5 nr108_0_5) hs113 (le90.t le114) (fun w116 hs117 => ?_)
    refine Dv [9, 10] ?_
    obtain rfl := Aa h110
    exact UG (by kernel_rfl) ⟨F9, hs117.dr0, (le90.t le114), fI⟩
  ·refine DAl 27 #[(sv (([] : UO))), (vi 0), (vi 0), (vi 0), (.slice none ([] : List Int).length 0), (.slice none ([] : List Line).length 0)] hw67 (Uu _) (fun b118 w119 hs120 => ?_)
   refine D1 0 ?_
   obtain ⟨r121, hr122, h123⟩ := bind_some h83
   refine DCl B4 hs120 (Cl N w119 F5 hs120.pers  _ hr122) ?_
   rintro _ F10 w125 hs126 le127 rfl
   refine D1 2 ?_
   obtain ⟨r129, hr130, h131⟩ := bind_some h123
   refine DCl Ez hs126 (E7 N w125 F10 hs126.pers (hG.mono (((((le27.t le35).trans le43).trans le51).trans le59).trans le127)) (({ Report := r121.Report, Serial := r121.Serial, Zone := r121.Zone } : Ac)) r81 _ hr130) ?_
   rintro _ F11 w133 hs134 le135 ⟨ar129_0_4, nr129_0_4, ar129_0_5, nr129_0_5, rfl, hbr129_0_4, hsr129_0_4, hbr129_0_5, hsr129_0_5⟩
   refine Dv [3, 4, 5, 6] <| D1 8 <| Gq (AC r129.1 ar129_0_4 nr129_0_4 ar129_0_5 nr129_0_5) hs134 (le127.t le135) (fun w137 hs138 => ?_)
   refine Dv [9, 10] ?_
   obtain rfl := Aa h131
   exact UG (by kernel_rfl) ⟨F11, hs138.dr0, (le127.t le135), fI⟩
 ·rintro f w68 ⟨F6, hs69, le70, ⟨_, rfl⟩⟩
  refine Ab <| Sq (Rg (rG 11) ?_)
  obtain ⟨r139, hr140, h141⟩ := bind_some h80
  refine Cl' B4 hs69 (Cl N w68 F6 hs69.pers  _ hr140) ?_
  rintro _ F12 w143 hs144 le145 rfl
  obtain ⟨r147, hr148, h149⟩ := bind_some h141
  refine Cl' MJ hs144 (Nq N w143 F12 hs144.pers (hG.mono ((((((le27.t le35).trans le43).trans le51).trans le59).trans le70).trans le145)) (({ Report := r139.Report, Serial := r139.Serial, Zone := r139.Zone } : Ac)) (([67, 65, 76, 76, 32, 68, 76, 49, 88, 89, 10, 67, 65, 84, 69, 71, 79, 82, 89, 32, 49, 10, 67, 76, 65, 73, 77, 69, 68, 32, 50, 48, 10, 74, 85, 77, 80, 83, 10, 81, 83, 79, 32, 55, 32, 49, 52, 48, 50, 53, 32, 77, 32, 49, 32, 48, 49, 49, 53, 32, 75, 49, 65, 66, 67, 32, 62, 32, 53, 57, 57, 32, 48, 49, 50, 32, 60, 32, 53, 57, 57, 32, 48, 48, 51, 10, 101, 110, 100, 10] : UO)) _ hr148) ?_
  rintro _ F13 w151 hs152 le153 ⟨ar147_1_0, nr147_1_0, rfl, hbr147_1_0, hsr147_1_0⟩
  refine Vs 9 <| Nss (Rg (rG 10) ?_)
  obtain ⟨r155, hr156, h157⟩ := bind_some h149
  refine Cl' B4 hs152 (Cl N w151 F13 hs152.pers  _ hr156) ?_
  rintro _ F14 w159 hs160 le161 rfl
  obtain ⟨r163, hr164, h165⟩ := bind_some h157
  refine Cl' DD hs160 (Ee N w159 F14 hs160.pers  _ hr164) ?_
  rintro _ F15 w167 hs168 le169 ⟨ar163_0_4, nr163_0_4, ar163_0_5, nr163_0_5, rfl, hbr163_0_4, hsr163_0_4, hbr163_0_5, hsr163_0_5⟩
  refine Vs 1 <| Bs 64 [(vi 1), (vi 7), (vi 0), (vi 0), (vi 0), (vi 0), (sv (([] : UO))), (vi 0), (vi 0), (vi 0), (vi 0), (vi 0), (vi 0)] hs168 (fun b171 w172 hs173 => ?_)
  have hr175 : Av JD 64 F15 (some ⟨b171, 0, none⟩) 1 [({ Kind := 1, Num := 7, Line := ({ Num := 0, Khz := 0, Mode := 0, Minute := 0, Call := ([] : UO), Sent := ({ Report := 0, Serial := 0, Zone := 0 } : Ad), Got := ({ Report := 0, Serial := 0, Zone := 0 } : Ad) } : Line) } : Fix)] (some b171, .cells ([(vi 1), (vi 7), (vi 0), (vi 0), (vi 0), (vi 0), (sv (([] : UO))), (vi 0), (vi 0), (vi 0), (vi 0), (vi 0), (vi 0)] : List Value).toArray 64 (0, 0)) := UJ ⟨rfl, rfl⟩ (by simp)
  have hb179 := UH hr175
  obtain ⟨F16, hs176, le177, hs178⟩ := hs173.fr0 hr175
  obtain ⟨r180, hr181, h182⟩ := bind_some h165
  refine Cl' ML hs176 (Ns N w172 F16 hs176.pers (hG.mono ((((((((((le27.t le35).trans le43).trans le51).trans le59).trans le70).trans le145).trans le153).trans le161).trans le169).trans le177)) (({ Report := r155.Report, Serial := r155.Serial, Zone := r155.Zone } : Ac)) r163 ar163_0_4 nr163_0_4 hbr163_0_4 (Uw hsr163_0_4 le177) ar163_0_5 nr163_0_5 hbr163_0_5 (Uw hsr163_0_5 le177) ([({ Kind := 1, Num := 7, Line := ({ Num := 0, Khz := 0, Mode := 0, Minute := 0, Call := ([] : UO), Sent := ({ Report := 0, Serial := 0, Zone := 0 } : Ad), Got := ({ Report := 0, Serial := 0, Zone := 0 } : Ad) } : Line) } : Fix)]) (some ⟨b171, 0, none⟩) 1 hb179 hs178 _ hr181) ?_
  rintro _ F17 w184 hs185 le186 ⟨ar180_0_0, nr180_0_0, rfl, hbr180_0_0, hsr180_0_0⟩
  refine Vs 5 <| Nss <| Sq (Rg (rG 27) ?_)
  refine Uz (fun f w => ∃ (F18 : Mem), HS w0 F0 w F18 [(sb b61 (AC r53.1 ar53_0_4 nr53_0_4 ar53_0_5 nr53_0_5) 27)] /\ Ut F17 F18 /\ FI f [] [(1, (sv r37.1)), (3, (pt b61 0)), (10, (.slice ar147_1_0 r147.2.1.length nr147_1_0)), (11, (vi r147.2.2.1)), (13, (.slice ar180_0_0 r180.1.length nr180_0_0)), (75, (.bool ((r37.2 != 0) || ((r53.2.1 != 0) || ((j71.1 != 20) || ((r147.2.2.2 != 0) || ((r180.2 != 0) || ((j71.2 != 7) || ((r180.1.length : Int) != 1)))))))))]) ?_ ?_
  ·refine Vs 3 ?_
   refine Uy (r37.2 != 0) (fun hb198 => ?_) (fun hb198 => ?_)
   ·refine Ss hb198 2 ?_
    refine Pk1 hb198 <| Vs 1 <| Ss (rfl : true = true) 2 <| Pk1 (rfl : true = true) <| Vs 1 <| Ss (rfl : true = true) 2 <| Pk1 (rfl : true = true) <| Vs 1 <| Ss (rfl : true = true) 2 <| Pk1 (rfl : true = true) <| Vs 1 <| Ss (rfl : true = true) 2 <| Pk1 (rfl : true = true) <| Vs 1 <| Ss (rfl : true = true) 3 <| Pk1 (rfl : true = true) ?_
    exact Up ⟨rfl, F17, hs185, (Uu _), (fJ ⟨rfl, rfl, rfl, rfl, rfl, (congrArg Value.bool (FD hb198 rfl)), trivial⟩)⟩
   ·refine Vgs hb198 2 ?_
    refine Pk0 hb198 <| Vs 1 <| Uy (r53.2.1 != 0) (fun hb199 => ?_) (fun hb199 => ?_)
    ·refine Ss hb199 2 ?_
     refine Pk1 hb199 <| Vs 1 <| Ss (rfl : true = true) 2 <| Pk1 (rfl : true = true) <| Vs 1 <| Ss (rfl : true = true) 2 <| Pk1 (rfl : true = true) <| Vs 1 <| Ss (rfl : true = true) 2 <| Pk1 (rfl : true = true) <| Vs 1 <| Ss (rfl : true = true) 3 <| Pk1 (rfl : true = true) ?_
     exact Up ⟨rfl, F17, hs185, (Uu _), (fJ ⟨rfl, rfl, rfl, rfl, rfl, (congrArg Value.bool (Cn hb198 (FD hb199 rfl))), trivial⟩)⟩
    ·refine Vgs hb199 2 ?_
     refine Pk0 hb199 <| Vs 1 <| Uy (j71.1 != 20) (fun hb200 => ?_) (fun hb200 => ?_)
     ·refine Ss hb200 2 ?_
      refine Pk1 hb200 <| Vs 1 <| Ss (rfl : true = true) 2 <| Pk1 (rfl : true = true) <| Vs 1 <| Ss (rfl : true = true) 2 <| Pk1 (rfl : true = true) <| Vs 1 <| Ss (rfl : true = true) 3 <| Pk1 (rfl : true = true) ?_
      exact Up ⟨rfl, F17, hs185, (Uu _), (fJ ⟨rfl, rfl, rfl, rfl, rfl, (congrArg Value.bool (Cn hb198 (Cn hb199 (FD hb200 rfl)))), trivial⟩)⟩
     ·refine Vgs hb200 2 ?_
      refine Pk0 hb200 <| Vs 1 <| Uy (r147.2.2.2 != 0) (fun hb201 => ?_) (fun hb201 => ?_)
      ·refine Ss hb201 2 ?_
       refine Pk1 hb201 <| Vs 1 <| Ss (rfl : true = true) 2 <| Pk1 (rfl : true = true) <| Vs 1 <| Ss (rfl : true = true) 3 <| Pk1 (rfl : true = true) ?_
       exact Up ⟨rfl, F17, hs185, (Uu _), (fJ ⟨rfl, rfl, rfl, rfl, rfl, (congrArg Value.bool (Cn hb198 (Cn hb199 (Cn hb200 (FD hb201 rfl))))), trivial⟩)⟩
      ·refine Vgs hb201 2 ?_
       refine Pk0 hb201 <| Vs 1 <| Uy (r180.2 != 0) (fun hb202 => ?_) (fun hb202 => ?_)
       ·refine Ss hb202 2 ?_
        refine Pk1 hb202 <| Vs 1 <| Ss (rfl : true = true) 3 <| Pk1 (rfl : true = true) ?_
        exact Up ⟨rfl, F17, hs185, (Uu _), (fJ ⟨rfl, rfl, rfl, rfl, rfl, (congrArg Value.bool (Cn hb198 (Cn hb199 (Cn hb200 (Cn hb201 (FD hb202 rfl)))))), trivial⟩)⟩
       ·refine Vgs hb202 2 ?_
        refine Pk0 hb202 <| Vs 1 <| Uy (j71.2 != 7) (fun hb203 => ?_) (fun hb203 => ?_)
        ·refine Ss hb203 3 ?_
         refine Pk1 hb203 ?_
         exact Up ⟨rfl, F17, hs185, (Uu _), (fJ ⟨rfl, rfl, rfl, rfl, rfl, (congrArg Value.bool (Cn hb198 (Cn hb199 (Cn hb200 (Cn hb201 (Cn hb202 (FD hb203 rfl))))))), trivial⟩)⟩
        ·refine Vgs hb203 3 ?_
         refine Pk0 hb203 ?_
         exact Up ⟨rfl, F17, hs185, (Uu _), (fJ ⟨rfl, rfl, rfl, rfl, rfl, (congrArg Value.bool (Cn hb198 (Cn hb199 (Cn hb200 (Cn hb201 (Cn hb202 (Cn hb203 rfl))))))), trivial⟩)⟩
  ·rintro f w188 ⟨F18, hs189, le190, ⟨_, rfl⟩⟩
   refine Ab <| Cd h182 (fun hb204 h205 => ?_) (fun hb204 h206 => ?_)
   ·refine Sq (Rg [0] ?_)
    refine Vs 1 <| Nt <| Rt <| Ae ?_
    obtain rfl := Aa h205
    exact Re [(.bool false)] hs189 rfl
   ·refine Sc ?_
    refine Ab <| Sq ?_
    obtain ⟨j212, hj215, h216⟩ := bind_some h206
    refine RD 28 28 [(sb b61 (AC r53.1 ar53_0_4 nr53_0_4 ar53_0_5 nr53_0_5) 27)] [] hs189 (fun f w => ∃ (F19 : Mem), HS w0 F0 w F19 [] /\ Ut F18 F19 /\ FI f [] [(0, (.bool j212))]) (fun wd207 hw208 => ?_) ?_
    ·refine Dvl [0, 1, 2] (tf 3 25) ?_
     refine Sd hj215 (fun hb217 h218 => ?_) (fun hb217 h219 => ?_)
     ·refine Dgl 3 79 27 _ (tf 4 24) 2 true 78 hb217 (fun _ hq => ld 27 3 b61 0 true 6 (.agg (AC r53.1 ar53_0_4 nr53_0_4 ar53_0_5 nr53_0_5)) (hq.1.2 0 _ _ rfl)) ?_
      refine D1 4 ?_
      obtain ⟨r220, hr221, h222⟩ := bind_some h218
      refine UF (l' := [true, true, true, true, true, false, false, false, false, false, false, false, false, false, false, false, false, false, false, false, false, false, false, false, false, false, false, false]) (zd := true) (by kernel_rfl) (by kernel_rfl) (by kernel_rfl) (dst := (some 80)) (ty := 27) (g := (some (2, true))) (by kernel_rfl) (Ge (d := 78) (by kernel_rfl) rfl hb217) (f0 := (.func 72)) (aos := #[]) (ats := #[]) (fid := 72) (first := #[]) (cap := #[]) (args := []) rfl DD rfl hw208 (Ee N wd207 F18 hw208.pers  _ hr221) ?_
      rintro _ F20 w224 hs225 le226 ⟨ar220_0_4, nr220_0_4, ar220_0_5, nr220_0_5, rfl, hbr220_0_4, hsr220_0_4, hbr220_0_5, hsr220_0_5⟩
      refine D1 5 ?_
      obtain ⟨r228, hr229, h230⟩ := bind_some h222
      refine UF (l' := [true, true, true, true, true, true, false, false, false, false, false, false, false, false, false, false, false, false, false, false, false, false, false, false, false, false, false, false]) (zd := true) (by kernel_rfl) (by kernel_rfl) (by kernel_rfl) (dst := (some 81)) (ty := 4) (g := (some (2, true))) (by kernel_rfl) (Ge (d := 78) (by kernel_rfl) rfl hb217) (f0 := (.func 35)) (aos := #[(.tmp 79), (.tmp 80)]) (ats := #[27, 27]) (fid := 35) (first := #[]) (cap := #[]) (args := [(.agg (AC r53.1 ar53_0_4 nr53_0_4 ar53_0_5 nr53_0_5)), (.agg (AC r220 ar220_0_4 nr220_0_4 ar220_0_5 nr220_0_5))]) rfl Nh rfl hs225 (OB N w224 F20 hs225.pers r53.1 ar53_0_4 nr53_0_4 hbr53_0_4 (Uw hsr53_0_4 ((((((((le70.t le145).trans le153).trans le161).trans le169).trans le177).trans le186).trans le190).trans le226)) ar53_0_5 nr53_0_5 hbr53_0_5 (Uw hsr53_0_5 ((((((((le70.t le145).trans le153).trans le161).trans le169).trans le177).trans le186).trans le190).trans le226)) r220 ar220_0_4 nr220_0_4 hbr220_0_4 hsr220_0_4 ar220_0_5 nr220_0_5 hbr220_0_5 hsr220_0_5 _ hr229) ?_
      rintro _ F21 w232 hs233 le234 rfl
      refine Dtl 6 82 4 _ (tf 7 21) (fun _ hq => p1 78 (.tmp 81) (.const (.bool false)) (.bool r228) hb217) <| Dvl [7] (tf 8 20) <| Sd h230 (fun hb236 h237 => ?_) (fun hb236 h238 => ?_)
      ·refine Dgl 8 84 3 _ (tf 9 19) 7 true 83 hb236 (fun _ hq => mv 11 (vi r147.2.2.1)) ?_
       refine Dgl 9 85 4 (.bool (r147.2.2.1 == 7)) (tf 10 18) 7 true 83 hb236 (fun _ hq => EZ (t := 3) (t' := 3) (x := (.tmp 84)) (y := (.const (vi 7))) (k := .i64) (a := r147.2.2.1) (b := 7) rfl rfl) <| Dtl 10 86 4 _ (tf 11 17) (fun _ hq => p1 83 (.tmp 85) (.const (.bool false)) (.bool (r147.2.2.1 == 7)) hb236) <| Dvl [11] (tf 12 16) <| Sd h237 (fun hb239 h240 => ?_) (fun hb239 h241 => ?_)
       ·refine Dgl 12 88 48 _ (tf 13 15) 11 true 87 hb239 (fun _ hq => mv 10 (.slice ar147_1_0 r147.2.1.length nr147_1_0)) ?_
        refine Dgl 13 89 3 (vi (r147.2.1.length : Int)) (tf 14 14) 11 true 87 hb239 (fun _ hq => ln 88 48 ar147_1_0 r147.2.1.length nr147_1_0 150 3 32) <| Dgl 14 90 4 (.bool ((r147.2.1.length : Int) == 7)) (tf 15 13) 11 true 87 hb239 (fun _ hq => EZ (t := 3) (t' := 3) (x := (.tmp 89)) (y := (.const (vi 7))) (k := .i64) (a := (r147.2.1.length : Int)) (b := 7) rfl rfl) <| Dtl 15 91 4 _ (tf 16 12) (fun _ hq => p1 87 (.tmp 90) (.const (.bool false)) (.bool ((r147.2.1.length : Int) == 7)) hb239) <| Dvl [16] (tf 17 11) <| Sd h240 (fun hb242 h243 => ?_) (fun hb242 h244 => ?_)
        ·refine Dgl 17 93 60 _ (tf 18 10) 16 true 92 hb242 (fun _ hq => mv 13 (.slice ar180_0_0 r180.1.length nr180_0_0)) ?_
         obtain ⟨x245, hx246, h248⟩ := bind_some h243
         obtain ⟨hi247, hx246'⟩ := Ak hx246
         obtain ⟨b249, o250, C251, E252, fz253, rfl, hF255, hE256⟩ := UB (Uw hsr180_0_0 le190) hx246'
         have hc258 := hE256 _ _ hx246'
         refine Dgl 18 94 0 (.pointer (some ⟨b249, (o250 + (0 : Int).toNat * 13), none⟩)) (tf 19 9) 16 true 92 hb242 (fun _ hq => Bv (t := 60) (x := (.tmp 93)) (y := (.const (vi 0))) (b := b249) (o := o250) (E := 64) (s := 13) (by_ := 112) rfl rfl (by kernel_rfl) hi247) <| Dgl 19 95 0 (.pointer (some ⟨b249, ((o250 + (0 : Int).toNat * 13) + 2), none⟩)) (tf 20 8) 16 true 92 hb242 (fun _ hq => fa 64 94 2 2 11 b249 (o250 + (0 : Int).toNat * 13) ((o250 + (0 : Int).toNat * 13) + 2)) <| Dgl 20 96 34 _ (tf 21 7) 16 true 92 hb242 (fun _ hq => lx 34 95 2 13 true 11 (.agg (BN x245.Line)) (hq.1.1 _ _ hF255) hc258) <| D1 21 ?_
         obtain ⟨r259, hr260, h261⟩ := bind_some h248
         refine UF (l' := [true, true, true, true, true, true, true, true, true, true, true, true, true, true, true, true, true, true, true, true, true, true, false, false, false, false, false, false]) (zd := true) (by kernel_rfl) (by kernel_rfl) (by kernel_rfl) (dst := (some 97)) (ty := 27) (g := (some (16, true))) (by kernel_rfl) (Ge (d := 92) (by kernel_rfl) rfl hb242) (f0 := (.func 72)) (aos := #[]) (ats := #[]) (fid := 72) (first := #[]) (cap := #[]) (args := []) rfl DD rfl hs233 (Ee N w232 F21 hs233.pers  _ hr260) ?_
         rintro _ F22 w263 hs264 le265 ⟨ar259_0_4, nr259_0_4, ar259_0_5, nr259_0_5, rfl, hbr259_0_4, hsr259_0_4, hbr259_0_5, hsr259_0_5⟩
         refine Dgl 22 98 25 _ (tf 23 5) 16 true 92 hb242 (fun _ hq => Mj (s := 27) (x := (.tmp 97)) (i := 5) (o := 5) (k := 1) (t := 25) (gg := false) (cs := (AC r259 ar259_0_4 nr259_0_4 ar259_0_5 nr259_0_5)) (v := (.slice ar259_0_5 r259.Lines.length nr259_0_5)) rfl (by kernel_rfl) (by kernel_rfl) rfl rfl rfl) ?_
         obtain ⟨x267, hx268, h270⟩ := bind_some h261
         obtain ⟨hi269, hx268'⟩ := Ak hx268
         obtain ⟨b271, o272, C273, E274, fz275, rfl, hF277, hE278⟩ := UB hsr259_0_5 hx268'
         have hc280 := hE278 _ _ hx268'
         refine Dgl 23 99 0 (.pointer (some ⟨b271, (o272 + (0 : Int).toNat * 11), none⟩)) (tf 24 4) 16 true 92 hb242 (fun _ hq => Bv (t := 25) (x := (.tmp 98)) (y := (.const (vi 0))) (b := b271) (o := o272) (E := 34) (s := 11) (by_ := 96) rfl rfl (by kernel_rfl) hi269) <| D1 24 <| UD (l' := [true, true, true, true, true, true, true, true, true, true, true, true, true, true, true, true, true, true, true, true, true, true, true, true, true, false, false, false]) (zd := true) (by kernel_rfl) (by kernel_rfl) (dst := (some 100)) (ty := 34) (g := (some (16, true))) (by kernel_rfl) (Ge (d := 92) (by kernel_rfl) rfl hb242) (Kr (t := 34) (x := (.tmp 99)) (b := b271) (o := (o272 + (0 : Int).toNat * 11)) (j := 0) (C := C273) (kk := 11) (cs := [(vi x267.Num), (vi x267.Khz), (vi x267.Mode), (vi x267.Minute), (sv x267.Call), (vi x267.Sent.Report), (vi x267.Sent.Serial), (vi x267.Sent.Zone), (vi x267.Got.Report), (vi x267.Got.Serial), (vi x267.Got.Zone)]) (gg := true) (s := 11) (v := (.agg (BN x267))) rfl (by kernel_rfl) (hs264.pers _ _ hF277) hc280 (by decide) (by exact ⟨rfl, trivial⟩) rfl rfl) (A5 hs264 ((le226.t le234).trans le265) (by simp) (fun e => by cases e)) <| Dgl 25 101 4 (.bool ((x245.Line.Num == x267.Num) && ((x245.Line.Khz == x267.Khz) && ((x245.Line.Mode == x267.Mode) && ((x245.Line.Minute == x267.Minute) && ((x245.Line.Call == x267.Call) && (((x245.Line.Sent.Report == x267.Sent.Report) && ((x245.Line.Sent.Serial == x267.Sent.Serial) && ((x245.Line.Sent.Zone == x267.Sent.Zone) && true))) && (((x245.Line.Got.Report == x267.Got.Report) && ((x245.Line.Got.Serial == x267.Got.Serial) && ((x245.Line.Got.Zone == x267.Got.Zone) && true))) && true)))))))) (tf 26 2) 16 true 92 hb242 (fun _ hq => P0 (t := 34) (t' := 34) (x := (.tmp 96)) (y := (.tmp 100)) (xs := (BN x245.Line)) (ys := (BN x267)) (b := ((x245.Line.Num == x267.Num) && ((x245.Line.Khz == x267.Khz) && ((x245.Line.Mode == x267.Mode) && ((x245.Line.Minute == x267.Minute) && ((x245.Line.Call == x267.Call) && (((x245.Line.Sent.Report == x267.Sent.Report) && ((x245.Line.Sent.Serial == x267.Sent.Serial) && ((x245.Line.Sent.Zone == x267.Sent.Zone) && true))) && (((x245.Line.Got.Report == x267.Got.Report) && ((x245.Line.Got.Serial == x267.Got.Serial) && ((x245.Line.Got.Zone == x267.Got.Zone) && true))) && true)))))))) rfl rfl (by kernel_rfl) (by kernel_rfl)) <| Dtl 26 102 4 _ (tf 27 1) (fun _ hq => p1 92 (.tmp 101) (.const (.bool false)) (.bool ((x245.Line.Num == x267.Num) && ((x245.Line.Khz == x267.Khz) && ((x245.Line.Mode == x267.Mode) && ((x245.Line.Minute == x267.Minute) && ((x245.Line.Call == x267.Call) && (((x245.Line.Sent.Report == x267.Sent.Report) && ((x245.Line.Sent.Serial == x267.Sent.Serial) && ((x245.Line.Sent.Zone == x267.Sent.Zone) && true))) && (((x245.Line.Got.Report == x267.Got.Report) && ((x245.Line.Got.Serial == x267.Got.Serial) && ((x245.Line.Got.Zone == x267.Got.Zone) && true))) && true)))))))) hb242) <| Dvl [27] (tf 28 0) ?_
         obtain rfl := Aa h270
         exact UG (by kernel_rfl) ⟨F22, hs264.dr0, ((le226.t le234).trans le265), fI⟩
        ·refine Dkl [(17, 93), (18, 94), (19, 95), (20, 96), (21, 97), (22, 98)] 16 true 92 hb242 (tf 23 5) ?_
         refine Dkl [(23, 99), (24, 100), (25, 101)] 16 true 92 hb242 (tf 26 2) <| Dtl 26 102 4 _ (tf 27 1) (fun _ hq => p0 92 (.tmp 101) (.const (.bool false)) (.bool false) hb242) <| Dvl [27] (tf 28 0) ?_
         obtain rfl := Aa h244
         exact UG (by kernel_rfl) ⟨F21, hs233.dr0, (le226.t le234), fI⟩
       ·refine Dkl [(12, 88), (13, 89), (14, 90)] 11 true 87 hb239 (tf 15 13) ?_
        refine Dtl 15 91 4 _ (tf 16 12) (fun _ hq => p0 87 (.tmp 90) (.const (.bool false)) (.bool false) hb239) <| Dvl [16] (tf 17 11) <| Dkl [(17, 93), (18, 94), (19, 95), (20, 96), (21, 97), (22, 98)] 16 true 92 rfl (tf 23 5) <| Dkl [(23, 99), (24, 100), (25, 101)] 16 true 92 rfl (tf 26 2) <| Dtl 26 102 4 _ (tf 27 1) (fun _ hq => p0 92 (.tmp 101) (.const (.bool false)) (.bool false) rfl) <| Dvl [27] (tf 28 0) ?_
        obtain rfl := Aa h241
        exact UG (by kernel_rfl) ⟨F21, hs233.dr0, (le226.t le234), fI⟩
      ·refine Dkl [(8, 84), (9, 85)] 7 true 83 hb236 (tf 10 18) ?_
       refine Dtl 10 86 4 _ (tf 11 17) (fun _ hq => p0 83 (.tmp 85) (.const (.bool false)) (.bool false) hb236) <| Dvl [11] (tf 12 16) <| Dkl [(12, 88), (13, 89), (14, 90)] 11 true 87 rfl (tf 15 13) <| Dtl 15 91 4 _ (tf 16 12) (fun _ hq => p0 87 (.tmp 90) (.const (.bool false)) (.bool false) rfl) <| Dvl [16] (tf 17 11) <| Dkl [(17, 93), (18, 94), (19, 95), (20, 96), (21, 97), (22, 98)] 16 true 92 rfl (tf 23 5) <| Dkl [(23, 99), (24, 100), (25, 101)] 16 true 92 rfl (tf 26 2) <| Dtl 26 102 4 _ (tf 27 1) (fun _ hq => p0 92 (.tmp 101) (.const (.bool false)) (.bool false) rfl) <| Dvl [27] (tf 28 0) ?_
       obtain rfl := Aa h238
       exact UG (by kernel_rfl) ⟨F21, hs233.dr0, (le226.t le234), fI⟩
     ·refine Dkl [(3, 79), (4, 80), (5, 81)] 2 true 78 hb217 (tf 6 22) ?_
      refine Dtl 6 82 4 _ (tf 7 21) (fun _ hq => p0 78 (.tmp 81) (.const (.bool false)) (.bool false) hb217) <| Dvl [7] (tf 8 20) <| Dkl [(8, 84), (9, 85)] 7 true 83 rfl (tf 10 18) <| Dtl 10 86 4 _ (tf 11 17) (fun _ hq => p0 83 (.tmp 85) (.const (.bool false)) (.bool false) rfl) <| Dvl [11] (tf 12 16) <| Dkl [(12, 88), (13, 89), (14, 90)] 11 true 87 rfl (tf 15 13) <| Dtl 15 91 4 _ (tf 16 12) (fun _ hq => p0 87 (.tmp 90) (.const (.bool false)) (.bool false) rfl) <| Dvl [16] (tf 17 11) <| Dkl [(17, 93), (18, 94), (19, 95), (20, 96), (21, 97), (22, 98)] 16 true 92 rfl (tf 23 5) <| Dkl [(23, 99), (24, 100), (25, 101)] 16 true 92 rfl (tf 26 2) <| Dtl 26 102 4 _ (tf 27 1) (fun _ hq => p0 92 (.tmp 101) (.const (.bool false)) (.bool false) rfl) <| Dvl [27] (tf 28 0) ?_
      obtain rfl := Aa h219
      exact UG (by kernel_rfl) ⟨F18, hw208.dr0, (Uu _), fI⟩
    ·rintro f w209 ⟨F19, hs210, le211, ⟨_, rfl⟩⟩
     refine Ab <| Rt ?_
     obtain rfl := Aa h216
     exact Re [(.bool j212)] hs210 rfl
set_option maxRecDepth 100000 in
theorem QV : JS 9223372036854775808 = some true := by kernel_rfl
def HN (_N : Nat) : Option Bool := some true
theorem MM : Af Tryz.prog 19 := LS
theorem Nu (N : Nat) (w0 : World) (F0 : Mem) (hF : UQ w0 F0) (hG : Bm F0) (r : Bool) (h : HN N = some r) :
  Calls Tryz.prog 19 ([] : List Value).toArray w0 (AA w0 F0 fun F' v => v = (.bool r)) := by
 cases h
 exact MZ 9223372036854775808 w0 F0 hF hG true QV
def BQ (N : Nat) (x0 : Ac) (x1 : Log) (r27 : Bool) (r35 : Bool) : Int -> Option (Ba Bool Int) := fun s49 =>
 (bif ((decide (s49 < (x1.Lines.length : Int))) && (decide (s49 < 60))) then (((idx x1.Lines s49).bind fun x99 => ((idx x1.Lines s49).bind fun x113 => ((BU N ({ Report := x0.Report, Serial := x0.Serial, Zone := x0.Zone } : Ac) x99).bind fun r119 => ((B1 N ({ Report := x0.Report, Serial := x0.Serial, Zone := x0.Zone } : Ac) x113).bind fun r127 => some (!(r119 == r127)))))).bind fun j90 => (bif j90 then some (.ret false) else some (.next (W64 (s49 + 1))))) else some (.done s49))
def C9 (N : Nat) (x0 : Ac) (x1 : Log) : Option Bool :=
 ((HN N ).bind fun r27 => ((Is N x1).bind fun r35 => (bif (!r35) then some r27 else ((AO (BQ N x0 x1 r27 r35) N 0).bind fun o => o.k (fun r => some r) (fun s58 => ((Cw N ({ Report := x0.Report, Serial := x0.Serial, Zone := x0.Zone } : Ac) x1).bind fun r141 => ((CV N ({ Report := x0.Report, Serial := x0.Serial, Zone := x0.Zone } : Ac) x1).bind fun r149 => ((bif r27 then (bif (r141.1 == r149.1) then (bif (r141.2 == r149.2) then ((CG N ({ Report := x0.Report, Serial := x0.Serial, Zone := x0.Zone } : Ac) x1).bind fun r176 => ((CT N ({ Report := x0.Report, Serial := x0.Serial, Zone := x0.Zone } : Ac) x1).bind fun r184 => some (r176 == r184))) else some false) else some false) else some false).bind fun j162 => some j162))))))))
theorem Jw (N : Nat) (w0 : World) (F0 : Mem) (hF : UQ w0 F0) (hG : Bm F0) (x0 : Ac) (x1 : Log) (a1_4 : UP) (n1_4 : Nat) (hb1_4 : LC x1.Jumps.length n1_4) (hs1_4 : SlA AH F0 a1_4 x1.Jumps) (a1_5 : UP) (n1_5 : Nat) (hb1_5 : LC x1.Lines.length n1_5) (hs1_5 : SlA AF F0 a1_5 x1.Lines) (r : Bool) (h : C9 N x0 x1 = some r) :
  Calls Tryz.prog 3 ([(.agg (Ag x0)), (.agg (AC x1 a1_4 n1_4 a1_5 n1_5))] : List Value).toArray w0 (AA w0 F0 fun F' v => v = (.bool r)) := by
 have hs0 := Uv hF
 refine Go 74 Tryz.func3 <| Sq (Rg [0, 1, 2] ?_)
 refine Bx' 23 (Ag x0) hs0 (fun b21 w22 hs23 => ?_)
 refine Bx' 27 (AC x1 a1_4 n1_4 a1_5 n1_5) hs23 (fun b24 w25 hs26 => ?_)
 refine Vs 1 <| Nss (Rg [0, 1] ?_)
 obtain ⟨r27, hr28, h29⟩ := bind_some h
 refine Cl' MM hs26 (Nu N w25 F0 hs26.pers hG  _ hr28) ?_
 rintro _ F1 w31 hs32 le33 rfl
 refine Vs 1 <| Nss <| Sq (Rg [0, 1, 2] ?_)
 refine Ld hs32.at0 ?_
 obtain ⟨r35, hr36, h37⟩ := bind_some h29
 refine Cl' Ou hs32 (Pf N w31 F1 hs32.pers x1 a1_4 n1_4 hb1_4 (Uw hs1_4 le33) a1_5 n1_5 hb1_5 (Uw hs1_5 le33) _ hr36) ?_
 rintro _ F2 w39 hs40 le41 rfl
 refine Vs 1 <| Nt <| Cd h37 (fun hb43 h44 => ?_) (fun hb43 h45 => ?_)
 ·refine Sq (Rg [0, 1] ?_)
  refine Vs 2 <| Nt <| Rt <| Ae ?_
  obtain rfl := Aa h44
  exact Re [(.bool r27)] hs40 rfl
 ·refine Sc ?_
  refine Ab <| Sq <| Sq (Rg [0] ?_)
  refine Vs 1 <| Nt ?_
  obtain ⟨o46, ho47, h48⟩ := bind_some h45
  refine UA (fun f w => ∃ (s58 : Int) (F4 : Mem), o46 = .done s58 /\ HS w0 F0 w F4 [(sb b24 (AC x1 a1_4 n1_4 a1_5 n1_5) 27), (sb b21 (Ag x0) 23)] /\ Ut F2 F4 /\ FI f [] [(2, (pt b21 0)), (3, (pt b24 0)), (5, (.bool r27))]) ?_ ?_
  ·refine Bk ?_
   refine Us (by kernel_rfl) (fun m f w => ∃ (s49 : Int) (F3 : Mem), AO (BQ N x0 x1 r27 r35) m s49 = some o46 /\ HS w0 F0 w F3 [(sb b24 (AC x1 a1_4 n1_4 a1_5 n1_5) 27), (sb b21 (Ag x0) 23)] /\ Ut F2 F3 /\ FI f [] [(2, (pt b21 0)), (3, (pt b24 0)), (5, (.bool r27)), (6, (vi s49))]) N ⟨0, F2, ho47, hs40, (Uu _), fI⟩ ?_
   rintro m66 f w50 ⟨s49, F3, hit67, hs51, le52, ⟨_, rfl⟩⟩
   obtain ⟨m68, fl69, rfl, hb70, hnx71⟩ := AD hit67
   refine Sq <| Sq (Rg (rG 9) ?_)
   refine Uz (fun f w => ∃ (F5 : Mem), HS w0 F0 w F5 [(sb b24 (AC x1 a1_4 n1_4 a1_5 n1_5) 27), (sb b21 (Ag x0) 23)] /\ Ut F3 F5 /\ FI f [] [(2, (pt b21 0)), (3, (pt b24 0)), (5, (.bool r27)), (6, (vi s49)), (24, (.bool ((decide (s49 < (x1.Lines.length : Int))) && (decide (s49 < 60)))))]) ?_ ?_
   ·refine Vs 2 ?_
    refine Ld hs51.at0 <| Vs 3 <| Uy (decide (s49 < (x1.Lines.length : Int))) (fun hb81 => ?_) (fun hb81 => ?_)
    ·refine Vgs hb81 2 ?_
     refine Pk1 hb81 ?_
     exact Up ⟨rfl, F3, hs51, (Uu _), (fJ ⟨rfl, rfl, rfl, rfl, (congrArg Value.bool (I9 hb81 rfl)), trivial⟩)⟩
    ·refine Ss hb81 2 ?_
     refine Pk0 hb81 ?_
     exact Up ⟨rfl, F3, hs51, (Uu _), (fJ ⟨rfl, rfl, rfl, rfl, (congrArg Value.bool (Ja hb81 rfl)), trivial⟩)⟩
   ·rintro f w72 ⟨F5, hs73, le74, ⟨_, rfl⟩⟩
    refine Ab <| Cd hb70 (fun hb82 h83 => ?_) (fun hb82 h84 => ?_)
    ·refine Sc ?_
     refine Ab <| Sq <| Bk <| Sq ?_
     obtain ⟨j90, hj97, h98⟩ := bind_some h83
     refine RD 15 15 [(sb b24 (AC x1 a1_4 n1_4 a1_5 n1_5) 27), (sb b21 (Ag x0) 23)] [] hs73 (fun f w => ∃ (F6 : Mem), HS w0 F0 w F6 [(sb b24 (AC x1 a1_4 n1_4 a1_5 n1_5) 27), (sb b21 (Ag x0) 23)] /\ Ut F5 F6 /\ FI f [] [(2, (pt b21 0)), (3, (pt b24 0)), (5, (.bool r27)), (6, (vi s49)), (41, (.bool j90))]) (fun wd85 hw86 => ?_) ?_
     ·refine Dl 0 (fun _ hq => (hq.1.2 1 _ _ rfl)) ?_
      refine Dv [1] <| Dl 2 (fun _ hq => (hq.1.2 0 _ _ rfl)) <| Dv [3] ?_
      obtain ⟨x99, hx100, h102⟩ := bind_some hj97
      obtain ⟨hi101, hx100'⟩ := Ak hx100
      obtain ⟨b103, o104, C105, E106, fz107, rfl, hF109, hE110⟩ := UB (Uw hs1_5 (((le33.t le41).trans le52).trans le74)) hx100'
      have hc112 := hE110 _ _ hx100'
      refine Di 4 hi101 <| Dx 5 0 (fun _ hq => hq.1.1 _ _ hF109) hc112 <| Dl 7 (fun _ hq => (hq.1.2 1 _ _ rfl)) <| Dv [8] <| Dl 9 (fun _ hq => (hq.1.2 0 _ _ rfl)) <| Dv [10] ?_
      obtain ⟨x113, hx114, h116⟩ := bind_some h102
      obtain ⟨hi115, hx114'⟩ := Ak hx114
      have hc118 := hE110 _ _ hx114'
      refine Di 11 hi115 <| Dx 12 0 (fun _ hq => hq.1.1 _ _ hF109) hc118 <| D1 6 ?_
      obtain ⟨r119, hr120, h121⟩ := bind_some h116
      refine DCl Ea hw86 (Ep N wd85 F5 hw86.pers (({ Report := x0.Report, Serial := x0.Serial, Zone := x0.Zone } : Ac)) x99 _ hr120) ?_
      rintro _ F7 w123 hs124 le125 rfl
      refine D1 13 ?_
      obtain ⟨r127, hr128, h129⟩ := bind_some h121
      refine DCl Fo hs124 (Ga N w123 F7 hs124.pers (({ Report := x0.Report, Serial := x0.Serial, Zone := x0.Zone } : Ac)) x113 _ hr128) ?_
      rintro _ F8 w131 hs132 le133 rfl
      refine Dv [14] ?_
      obtain rfl := Aa h129
      exact UG (by kernel_rfl) ⟨F8, hs132, (le125.t le133), fI⟩
     ·rintro f w87 ⟨F6, hs88, le89, ⟨_, rfl⟩⟩
      refine Ab <| Cd h98 (fun hb135 h136 => ?_) (fun hb135 h137 => ?_)
      ·refine Sq (Rg [0] ?_)
       refine Vs 1 <| Nt <| Rt <| Ax <| Ae <| Ae <| Ax ?_
       have hret := BV h136 hnx71
       subst hret
       refine .inr <| Ae ?_
       obtain rfl := Aa h48
       exact Re [(.bool false)] hs88 rfl
      ·refine Sc ?_
       refine Aq <| Ab <| Rg [0, 1, 2] <| Vs 3 <| Up ?_
       have hn138 := AJ h137 hnx71
       exact ⟨m68, Nat.lt_succ_self _, (W64 (s49 + 1)), F6, hn138, hs88, ((le52.t le74).trans le89), fI⟩
    ·refine Ex ?_
     refine Ao <| Ao <| Ay rfl ?_
     have ho139 := AE h84 hnx71
     exact .inl ⟨rfl, s49, F5, ho139, hs73, (le52.t le74), fI⟩
  ·rintro f w59 ⟨s58, F4, rfl, hs60, le61, ⟨_, rfl⟩⟩
   have h140 := Bc h48
   refine Ab <| Sq (Rg (rG 8) ?_)
   refine Ld hs60.at1 <| Ld hs60.at0 ?_
   obtain ⟨r141, hr142, h143⟩ := bind_some h140
   refine Cl' EA hs60 (E8 N w59 F4 hs60.pers (hG.mono ((le33.t le41).trans le61)) (({ Report := x0.Report, Serial := x0.Serial, Zone := x0.Zone } : Ac)) x1 a1_4 n1_4 hb1_4 (Uw hs1_4 ((le33.t le41).trans le61)) a1_5 n1_5 hb1_5 (Uw hs1_5 ((le33.t le41).trans le61)) _ hr142) ?_
   rintro _ F9 w145 hs146 le147 rfl
   refine Vs 5 <| Nss (Rg (rG 8) ?_)
   refine Ld hs146.at1 <| Ld hs146.at0 ?_
   obtain ⟨r149, hr150, h151⟩ := bind_some h143
   refine Cl' HW hs146 (I7 N w145 F9 hs146.pers (({ Report := x0.Report, Serial := x0.Serial, Zone := x0.Zone } : Ac)) x1 a1_4 n1_4 hb1_4 (Uw hs1_4 (((le33.t le41).trans le61).trans le147)) a1_5 n1_5 hb1_5 (Uw hs1_5 (((le33.t le41).trans le61).trans le147)) _ hr150) ?_
   rintro _ F10 w153 hs154 le155 rfl
   refine Vs 5 <| Nss ?_
   obtain ⟨j162, hj165, h166⟩ := bind_some h151
   refine RD 21 21 [(sb b24 (AC x1 a1_4 n1_4 a1_5 n1_5) 27), (sb b21 (Ag x0) 23)] [] hs154 (fun f w => ∃ (F11 : Mem), HS w0 F0 w F11 [] /\ Ut F10 F11 /\ FI f [] [(4, (.bool j162))]) (fun wd157 hw158 => ?_) ?_
   ·refine Dvl [0, 1] (tf 2 19) ?_
    refine Sd hj165 (fun hb167 h168 => ?_) (fun hb167 h169 => ?_)
    ·refine Dgl 2 56 35 _ (tf 3 18) 1 true 55 hb167 (fun _ hq => mv 7 (vi r141.1)) ?_
     refine Dgl 3 57 35 _ (tf 4 17) 1 true 55 hb167 (fun _ hq => mv 9 (vi r149.1)) <| Dgl 4 58 4 (.bool (r141.1 == r149.1)) (tf 5 16) 1 true 55 hb167 (fun _ hq => EZ (t := 35) (t' := 35) (x := (.tmp 56)) (y := (.tmp 57)) (k := .i64) (a := r141.1) (b := r149.1) rfl rfl) <| Dtl 5 59 4 _ (tf 6 15) (fun _ hq => p1 55 (.tmp 58) (.const (.bool false)) (.bool (r141.1 == r149.1)) hb167) <| Dvl [6] (tf 7 14) <| Sd h168 (fun hb170 h171 => ?_) (fun hb170 h172 => ?_)
     ·refine Dgl 7 61 3 _ (tf 8 13) 6 true 60 hb170 (fun _ hq => mv 8 (vi r141.2)) ?_
      refine Dgl 8 62 3 _ (tf 9 12) 6 true 60 hb170 (fun _ hq => mv 10 (vi r149.2)) <| Dgl 9 63 4 (.bool (r141.2 == r149.2)) (tf 10 11) 6 true 60 hb170 (fun _ hq => EZ (t := 3) (t' := 3) (x := (.tmp 61)) (y := (.tmp 62)) (k := .i64) (a := r141.2) (b := r149.2) rfl rfl) <| Dtl 10 64 4 _ (tf 11 10) (fun _ hq => p1 60 (.tmp 63) (.const (.bool false)) (.bool (r141.2 == r149.2)) hb170) <| Dvl [11] (tf 12 9) <| Sd h171 (fun hb173 h174 => ?_) (fun hb173 h175 => ?_)
      ·refine Dgl 12 66 23 _ (tf 13 8) 11 true 65 hb173 (fun _ hq => ld 23 2 b21 0 true 3 (.agg (Ag x0)) (hq.1.2 1 _ _ rfl)) ?_
       refine Dgl 13 67 27 _ (tf 14 7) 11 true 65 hb173 (fun _ hq => ld 27 3 b24 0 true 6 (.agg (AC x1 a1_4 n1_4 a1_5 n1_5)) (hq.1.2 0 _ _ rfl)) <| Dgl 15 69 23 _ [tt, tt, tt, tt, tt, tt, tt, tt, tt, tt, tt, tt, tt, tt, ff, tt, ff, ff, ff, ff, ff] 11 true 65 hb173 (fun _ hq => ld 23 2 b21 0 true 3 (.agg (Ag x0)) (hq.1.2 1 _ _ rfl)) <| Dgl 16 70 27 _ [tt, tt, tt, tt, tt, tt, tt, tt, tt, tt, tt, tt, tt, tt, ff, tt, tt, ff, ff, ff, ff] 11 true 65 hb173 (fun _ hq => ld 27 3 b24 0 true 6 (.agg (AC x1 a1_4 n1_4 a1_5 n1_5)) (hq.1.2 0 _ _ rfl)) <| D1 14 ?_
       obtain ⟨r176, hr177, h178⟩ := bind_some h174
       refine UF (l' := [true, true, true, true, true, true, true, true, true, true, true, true, true, true, true, true, true, false, false, false, false]) (zd := true) (by kernel_rfl) (by kernel_rfl) (by kernel_rfl) (dst := (some 68)) (ty := 4) (g := (some (11, true))) (by kernel_rfl) (Ge (d := 65) (by kernel_rfl) rfl hb173) (f0 := (.func 25)) (aos := #[(.tmp 66), (.tmp 67)]) (ats := #[23, 27]) (fid := 25) (first := #[]) (cap := #[]) (args := [(.agg (Ag x0)), (.agg (AC x1 a1_4 n1_4 a1_5 n1_5))]) rfl GH rfl hw158 (Hn N wd157 F10 hw158.pers (hG.mono ((((le33.t le41).trans le61).trans le147).trans le155)) (({ Report := x0.Report, Serial := x0.Serial, Zone := x0.Zone } : Ac)) x1 a1_4 n1_4 hb1_4 (Uw hs1_4 ((((le33.t le41).trans le61).trans le147).trans le155)) a1_5 n1_5 hb1_5 (Uw hs1_5 ((((le33.t le41).trans le61).trans le147).trans le155)) _ hr177) ?_
       rintro _ F12 w180 hs181 le182 rfl
       refine D1 17 ?_
       obtain ⟨r184, hr185, h186⟩ := bind_some h178
       refine UF (l' := [true, true, true, true, true, true, true, true, true, true, true, true, true, true, true, true, true, true, false, false, false]) (zd := true) (by kernel_rfl) (by kernel_rfl) (by kernel_rfl) (dst := (some 71)) (ty := 4) (g := (some (11, true))) (by kernel_rfl) (Ge (d := 65) (by kernel_rfl) rfl hb173) (f0 := (.func 26)) (aos := #[(.tmp 69), (.tmp 70)]) (ats := #[23, 27]) (fid := 26) (first := #[]) (cap := #[]) (args := [(.agg (Ag x0)), (.agg (AC x1 a1_4 n1_4 a1_5 n1_5))]) rfl J0 rfl hs181 (K2 N w180 F12 hs181.pers (({ Report := x0.Report, Serial := x0.Serial, Zone := x0.Zone } : Ac)) x1 a1_4 n1_4 hb1_4 (Uw hs1_4 (((((le33.t le41).trans le61).trans le147).trans le155).trans le182)) a1_5 n1_5 hb1_5 (Uw hs1_5 (((((le33.t le41).trans le61).trans le147).trans le155).trans le182)) _ hr185) ?_
       rintro _ F13 w188 hs189 le190 rfl
       refine Dgl 18 72 4 (.bool (r176 == r184)) (tf 19 2) 11 true 65 hb173 (fun _ hq => P1 (t := 4) (t' := 4) (x := (.tmp 68)) (y := (.tmp 71)) (a := r176) (b := r184) rfl rfl (by kernel_rfl)) <| Dtl 19 73 4 _ (tf 20 1) (fun _ hq => p1 65 (.tmp 72) (.const (.bool false)) (.bool (r176 == r184)) hb173) <| Dvl [20] (tf 21 0) ?_
       obtain rfl := Aa h186
       exact UG (by kernel_rfl) ⟨F13, hs189.dr0.dr0, (le182.t le190), fI⟩
      ·refine Dkl [(12, 66), (13, 67), (14, 68), (15, 69), (16, 70), (17, 71)] 11 true 65 hb173 (tf 18 3) ?_
       refine Dkl [(18, 72)] 11 true 65 hb173 (tf 19 2) <| Dtl 19 73 4 _ (tf 20 1) (fun _ hq => p0 65 (.tmp 72) (.const (.bool false)) (.bool false) hb173) <| Dvl [20] (tf 21 0) ?_
       obtain rfl := Aa h175
       exact UG (by kernel_rfl) ⟨F10, hw158.dr0.dr0, (Uu _), fI⟩
     ·refine Dkl [(7, 61), (8, 62), (9, 63)] 6 true 60 hb170 (tf 10 11) ?_
      refine Dtl 10 64 4 _ (tf 11 10) (fun _ hq => p0 60 (.tmp 63) (.const (.bool false)) (.bool false) hb170) <| Dvl [11] (tf 12 9) <| Dkl [(12, 66), (13, 67), (14, 68), (15, 69), (16, 70), (17, 71)] 11 true 65 rfl (tf 18 3) <| Dkl [(18, 72)] 11 true 65 rfl (tf 19 2) <| Dtl 19 73 4 _ (tf 20 1) (fun _ hq => p0 65 (.tmp 72) (.const (.bool false)) (.bool false) rfl) <| Dvl [20] (tf 21 0) ?_
      obtain rfl := Aa h172
      exact UG (by kernel_rfl) ⟨F10, hw158.dr0.dr0, (Uu _), fI⟩
    ·refine Dkl [(2, 56), (3, 57), (4, 58)] 1 true 55 hb167 (tf 5 16) ?_
     refine Dtl 5 59 4 _ (tf 6 15) (fun _ hq => p0 55 (.tmp 58) (.const (.bool false)) (.bool false) hb167) <| Dvl [6] (tf 7 14) <| Dkl [(7, 61), (8, 62), (9, 63)] 6 true 60 rfl (tf 10 11) <| Dtl 10 64 4 _ (tf 11 10) (fun _ hq => p0 60 (.tmp 63) (.const (.bool false)) (.bool false) rfl) <| Dvl [11] (tf 12 9) <| Dkl [(12, 66), (13, 67), (14, 68), (15, 69), (16, 70), (17, 71)] 11 true 65 rfl (tf 18 3) <| Dkl [(18, 72)] 11 true 65 rfl (tf 19 2) <| Dtl 19 73 4 _ (tf 20 1) (fun _ hq => p0 65 (.tmp 72) (.const (.bool false)) (.bool false) rfl) <| Dvl [20] (tf 21 0) ?_
     obtain rfl := Aa h169
     exact UG (by kernel_rfl) ⟨F10, hw158.dr0.dr0, (Uu _), fI⟩
   ·rintro f w159 ⟨F11, hs160, le161, ⟨_, rfl⟩⟩
    refine Ab <| Rt ?_
    obtain rfl := Aa h166
    exact Re [(.bool j162)] hs160 rfl
section
variable {N : Nat}
theorem Qg (l : List Line) (hl : l.length < 4000000000) (hN : 4294967300 < N) : EI N l = some (l.all fun x => decide (x.Call.length <= 40)) := by
 unfold EI
 rw [Iu (l := l) (fun x => decide (x.Call.length <= 40)) false (fun i hi => by
  unfold D6
  rw [EQ hi, cond_true, D7 hi, Option.bind_some, Iz i (by omega), show decide ((l[i].Call.length : Int) > 40) = !decide (l[i].Call.length <= 40) by rw [<- decide_not, decide_eq_decide]; omega]
  cases decide (l[i].Call.length <= 40) <;> rfl) (by
  unfold D6
  rw [DC, cond_false]) (by omega)]
 cases l.all fun x => decide (x.Call.length <= 40) <;> rfl
structure Few (l : Log) : Prop where
 n : l.Lines.length <= 800
 j : l.Jumps.length <= 40
 c : l.Call.length <= 40
 x : ∀ x, x ∈ l.Lines -> x.Call.length <= 40
 s : l.Lines.length <= 60 \/ 400 < l.Lines.length
theorem Few.fit {l : Log} (h : Few l) : QY l := ⟨by have := h.j; omega, by have := h.n; omega, fun x hx => by have := h.x x hx; unfold S1; omega⟩
theorem TF (l : Log) (hN : 4294967300 < N) : ∃ b, Is N l = some b /\ (b = true -> Few l) := by
 unfold Is
 by_cases h1 : l.Lines.length <= 60
 ·rw [decide_eq_true (show (l.Lines.length : Int) <= 60 by omega), cond_true]
  by_cases h2 : l.Jumps.length <= 40
  ·rw [decide_eq_true (show (l.Jumps.length : Int) <= 40 by omega), cond_true]
   by_cases h3 : l.Call.length <= 40
   ·rw [decide_eq_true (show (l.Call.length : Int) <= 40 by omega), cond_true, Qg _ (by omega) hN]
    refine ⟨_, rfl, fun h => ⟨by omega, h2, h3, fun x hx => ?_, .inl h1⟩⟩
    rw [List.all_eq_true] at h
    simpa using h x hx
   ·rw [decide_eq_false (show ¬ (l.Call.length : Int) <= 40 by omega)]
    exact ⟨_, rfl, fun h => by cases h⟩
  ·rw [decide_eq_false (show ¬ (l.Jumps.length : Int) <= 40 by omega)]
   exact ⟨_, rfl, fun h => by cases h⟩
 ·rw [decide_eq_false (show ¬ (l.Lines.length : Int) <= 60 by omega), cond_false]
  by_cases h4 : l.Lines.length > 400
  ·rw [decide_eq_true (show (l.Lines.length : Int) > 400 by omega), cond_true]
   by_cases h5 : l.Lines.length <= 800
   ·rw [decide_eq_true (show (l.Lines.length : Int) <= 800 by omega), cond_true]
    by_cases h2 : l.Jumps.length <= 40
    ·rw [decide_eq_true (show (l.Jumps.length : Int) <= 40 by omega), cond_true]
     by_cases h3 : l.Call.length <= 40
     ·rw [decide_eq_true (show (l.Call.length : Int) <= 40 by omega), cond_true, Qg _ (by omega) hN]
      refine ⟨_, rfl, fun h => ⟨by omega, h2, h3, fun x hx => ?_, .inr (by omega)⟩⟩
      rw [List.all_eq_true] at h
      simpa using h x hx
     ·rw [decide_eq_false (show ¬ (l.Call.length : Int) <= 40 by omega)]
      exact ⟨_, rfl, fun h => by cases h⟩
    ·rw [decide_eq_false (show ¬ (l.Jumps.length : Int) <= 40 by omega)]
     exact ⟨_, rfl, fun h => by cases h⟩
   ·rw [decide_eq_false (show ¬ (l.Lines.length : Int) <= 800 by omega)]
    exact ⟨_, rfl, fun h => by cases h⟩
  ·rw [decide_eq_false (show ¬ (l.Lines.length : Int) > 400 by omega)]
   exact ⟨_, rfl, fun h => by cases h⟩
theorem QN {ρ : Type} {body : Int -> Option (Ba ρ Int)} (k : Nat) (hb : ∀ i, i < k -> body (i : Int) = some (.next ((i + 1 : Nat) : Int))) (he : body (k : Int) = some (.done (k : Int))) (hN : k < N) : AO body N 0 = some (.done (k : Int)) :=
 L1 (fun i => (i : Int)) k hb he (fun _ h => by cases h) hN
theorem Qr (i n : Nat) : (decide ((i : Int) < (n : Int)) && decide ((i : Int) < 60)) = decide (i < min n 60) := by
 rw [<- Bool.decide_and, decide_eq_decide]; omega
theorem Oy (o : Ac) (l : Log) (hN : 4294967300 < N) : C9 N o l = some true := by
 unfold C9
 obtain ⟨b, hb, hf⟩ := TF l hN
 rw [hb, show HN N = some true from rfl]
 simp only [Option.bind_some]
 cases b with
 | false => rfl
 | true =>
  have hf := hf rfl
  rw [Bool.not_true, cond_false]
  have hl := QN (N := N) (body := BQ N o l true true) (min l.Lines.length 60) (fun i hi => by
   unfold BQ
   rw [Qr, decide_eq_true hi, cond_true, D7 (by omega)]
   have hx := hf.fit.x _ (List.getElem_mem (show i < l.Lines.length by omega))
   simp only [Option.bind_some]
   show ((((BU N o _).bind fun r119 => (B1 N o _).bind fun r127 => some (!r119 == r127))).bind _) = _
   rw [Qi o _ hx hN, P7 o _ hx hN]
   simp only [Option.bind_some, beq_self_eq_true, Bool.not_true, cond_false]
   rw [Iz i (by omega)]) (by
   unfold BQ
   rw [Qr, decide_eq_false (by omega), cond_false]) (by omega)
  rw [hl, Option.bind_some]
  show ((Cw N o l).bind fun r141 => (CV N o l).bind fun r149 => ((bif true then (bif (r141.1 == r149.1) then (bif (r141.2 == r149.2) then ((CG N o l).bind fun r176 => (CT N o l).bind fun r184 => some (r176 == r184)) else some false) else some false) else some false).bind fun j162 => some j162)) = _
  rw [Qk o l hf.fit hN, P8 o l hf.fit hN, Tt o l hf.fit hN, To o l hf.fit hN]
  simp only [Option.bind_some, beq_self_eq_true, cond_true]
end
theorem PT (x0 : Ac) (x1 : Log) {P Q : Prop} (_ : P) (_ : Q) : C9 9223372036854775808 x0 x1 = some true := Oy x0 x1 (by decide)
end Go.Proofs.YthljkpeimofbbaaGreatDoor
